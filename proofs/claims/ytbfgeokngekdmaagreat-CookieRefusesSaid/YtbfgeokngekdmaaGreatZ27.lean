/- Lemmas of this claim, several texts joined. -/
import Derived.Test.YtbfgeokngekdmaaGreatZ7
import Derived.Test.YtbfgeokngekdmaaGreatZ11
import Derived.Test.YtbfgeokngekdmaaGreatZ15
import Derived.Test.YtbfgeokngekdmaaGreatZ25
import Derived.Test.YtbfgeokngekdmaaGreatZ26
set_option linter.unusedVariables false
set_option linter.unusedSimpArgs false
/- Layer 6: check, copies of lists, the stream of a tag. -/
namespace Go.Proofs.YtbfgeokngekdmaaGreat
open Go.RowKit Go.Sec Go.Oct Go.Aes BigFrame

set_option maxRecDepth 100000 in
theorem long1_any (a : Option Addr) (n c : Nat) (l : List UInt8) (w : World) (h : Sl w a n l) :
    Calls Tryz.prog 59 #[.slice a n c] w fun e w' => e = .returned (.bool (decide (65519 < l.length))) ∧ Ext w w' := by
  have hl := h.len
  by_cases hn : 65519 < n
  · have hI : (65519 : Int) < (n : Int) := by omega
    have e := Lib.hid (show decide (65519 < l.length) = true by simp; omega)
    clear hl
    go_enter Tryz.func59, Tryz.ntmps59
    go_wp2
    go_ret
    exact ⟨by rw [e.out]; rfl, Ext.refl _⟩
  · have hI : ¬ (65519 : Int) < (n : Int) := by omega
    have e := Lib.hid (show decide (65519 < l.length) = false by simp; omega)
    clear hl
    go_enter Tryz.func59, Tryz.ntmps59
    go_wp2
    go_ret
    exact ⟨by rw [e.out]; rfl, Ext.refl _⟩

def IdxLong (A : List (List UInt8)) (w : World) (e : Ending) (w' : World) : Prop := ∃ r : Int, e = .returned (.int .i64 r) ∧ (0 ≤ r ↔ longA A = true) ∧ Ext w w'
set_option maxRecDepth 100000 in
set_option maxHeartbeats 4000000 in
theorem indexLong_any (a : Option Addr) (n c : Nat) (A : List (List UInt8)) (w : World) (h : Bsc w a n A) (hn : n ≤ 1000000) :
    Calls Tryz.prog 72 #[.slice a n c, .func (.func 59) #[] #[]] w (IdxLong A w) := by
  have hl := h.len
  go_enter Tryz.func72, Tryz.ntmps72
  go_wp2_with fail
  go_loopw [8] (fun v8 wr => ∃ i : Nat, i ≤ n ∧ v8 = .int .i64 i ∧ Hid (longA (A.take i) = false) ∧ Ext w wr) (fun v8 _ => n - (intOf v8).toNat)
  case atStart => exact ⟨0, by omega, rfl, Lib.hid rfl, Ext.refl _⟩
  case round =>
    obtain ⟨i, hi, rfl, hm, hx⟩ := hrel
    obtain ⟨x, rfl⟩ := hx.out
    by_cases hlt : i < n
    · obtain ⟨b0, o0, a', n', c', rfl, hb0, hcell, hc', hS⟩ := (h.ext hx).at i hlt
      have i0 : (0 : Int) ≤ (i : Int) := by omega
      have i1 : (i : Int) < (n : Int) := by omega
      have hsu := Lib.hid (show longA (A.take (i + 1)) = decide (65519 < (A[i]'(by omega)).length) by
        rw [List.take_succ_eq_append_getElem (by omega)]
        unfold longA
        rw [List.any_append]
        have := hm.out
        unfold longA at this
        rw [this]; simp)
      have htr := Lib.hid (show longA (A.take (i + 1)) = true → longA A = true from fun h => by
        unfold longA at h ⊢
        obtain ⟨x, hx, hp⟩ := List.any_eq_true.1 h
        exact List.any_eq_true.2 ⟨x, List.mem_of_mem_take hx, hp⟩)
      go_wp2_with fail
      refine (long1_any _ _ _ _ _ hS).mono ?_; rintro e w1 ⟨rfl, hx1⟩
      obtain ⟨x1, rfl⟩ := hx1.out
      cases hb : decide (65519 < (A[i]'(by omega)).length)
      · have hm2 := Lib.hid (show longA (A.take (i + 1)) = false by rw [hsu.out, hb])
        clear hb
        go_wp2_with fail
        go_roundw
        case rel => exact ⟨i + 1, by omega, by go_num, hm2, (by repeat (first | (with_reducible first | exact Ext.refl _ | assumption | apply Ext.alloc | apply Ext.ext | apply Ext.drew | refine Ext.setCell ?_ ?_ _) | (focus (simp [go_sem]; done))))⟩
        case measure => simp [intOf]; omega
      · have hm2 := Lib.hid (show longA A = true from htr.out (by rw [hsu.out, hb]))
        clear hb
        go_wp2_with fail
        go_ret
        exact ⟨i, rfl, by rw [hm2.out]; simp, (by repeat (first | (with_reducible first | exact Ext.refl _ | assumption | apply Ext.alloc | apply Ext.ext | apply Ext.drew | refine Ext.setCell ?_ ?_ _) | (focus (simp [go_sem]; done))))⟩
    · obtain rfl : i = n := by omega
      have hlo := Lib.hid (show longA A = false by have := hm.out; rwa [List.take_of_length_le (by omega)] at this)
      go_wp2_with fail
      go_ret
      exact ⟨-1, rfl, by rw [hlo.out]; simp, (by repeat (first | (with_reducible first | exact Ext.refl _ | assumption | apply Ext.alloc | apply Ext.ext | apply Ext.drew | refine Ext.setCell ?_ ?_ _) | (focus (simp [go_sem]; done))))⟩

theorem containsLong_any (a : Option Addr) (n c : Nat) (A : List (List UInt8)) (w : World) (h : Bsc w a n A) (hn : n ≤ 1000000) :
    Calls Tryz.prog 58 #[.slice a n c, .func (.func 59) #[] #[]] w fun e w' => e = .returned (.bool (longA A)) ∧ Ext w w' := by
  go_enter Tryz.func58, Tryz.ntmps58
  go_wp2_with fail
  refine (indexLong_any _ _ _ _ _ h hn).mono ?_; rintro e w1 ⟨r, rfl, hr, hx1⟩
  have hd := Lib.hid (show decide (0 ≤ r) = longA A by rw [Bool.eq_iff_iff]; simpa using hr)
  clear hr
  go_wp2_with fail
  go_ret
  exact ⟨by rw [← hd.out]; rfl, hx1⟩

theorem ne32 {n : Nat} (h : n ≠ 32) : ((n : Int) != 32) = true := by rw [bne_iff_ne]; omega
set_option maxRecDepth 100000 in
set_option maxHeartbeats 4000000 in
theorem check_any (a b : Option Addr) (n c m d : Nat) (ky : List UInt8) (A : List (List UInt8)) (w : World) (hk : Sl w a n ky) (hA : Bsc w b m A) (hm : m ≤ 1000000) :
    Calls Tryz.prog 42 #[.slice a n c, .slice b m d] w fun e w' => e = .returned (.int .i64 (checkA ky A)) ∧ Ext w w' := by
  have hkl := hk.len
  have hAl := hA.len
  by_cases h1 : n = 32
  · by_cases h2 : 16 < m
    · have e := Lib.hid (show checkA ky A = 8 by unfold checkA; rw [if_neg (by omega), if_pos (by omega)])
      have hI : ((n : Int) != 32) = false := by rw [bne_eq_false_iff_eq]; omega
      have hI2 : (16 : Int) < (m : Int) := by omega
      clear hkl h1
      go_enter Tryz.func42, Tryz.ntmps42
      go_wp2_with fail
      go_ret
      exact ⟨by rw [e.out]; rfl, Ext.refl _⟩
    · cases hb : longA A
      all_goals
        have e := Lib.hid (show checkA ky A = if longA A then 2 else 0 by unfold checkA; rw [if_neg (by omega), if_neg (by omega)])
        rw [hb] at e
        have hI : ((n : Int) != 32) = false := by rw [bne_eq_false_iff_eq]; omega
        have hI2 : ¬ (16 : Int) < (m : Int) := by omega
        have hc := fun w h => containsLong_any b m d A w h hm
        rw [hb] at hc
        clear hkl h1 hb
        go_enter Tryz.func42, Tryz.ntmps42
        go_wp2_with (first | (go_at_call 58; (with_reducible refine (hc ?_ ?hq35).mono ?_); (case hq35 => (repeat' (first | with_reducible assumption | (refine bsc2 ?_ ?_ ?_ ?_ _; (· (repeat' (first | with_reducible assumption | (with_reducible exact zeros16 _) | (with_reducible exact sl_new1 _ _ _) | (with_reducible first | apply Sl.upE | apply Sl.upA | apply Sl.upD)))); (· omega); (· (repeat' (first | with_reducible assumption | (with_reducible exact zeros16 _) | (with_reducible exact sl_new1 _ _ _) | (with_reducible first | apply Sl.upE | apply Sl.upA | apply Sl.upD)))); (· omega)) | (with_reducible first | apply Bsc.upE | apply Bsc.upA | apply Bsc.upD)))); rintro e w1 ⟨rfl, hxq⟩; obtain ⟨xq, rfl⟩ := hxq.out; clear hxq) | fail)
        go_ret
        exact ⟨by rw [e.out]; rfl, (by repeat (first | (with_reducible first | exact Ext.refl _ | assumption | apply Ext.alloc | apply Ext.ext | apply Ext.drew | refine Ext.setCell ?_ ?_ _) | (focus (simp [go_sem]; done))))⟩
  · have e := Lib.hid (show checkA ky A = 5 by unfold checkA; rw [if_pos (by omega)])
    have hI := ne32 h1
    clear hkl h1
    go_enter Tryz.func42, Tryz.ntmps42
    go_wp2_with fail
    go_ret
    exact ⟨by rw [e.out]; rfl, Ext.refl _⟩

set_option maxRecDepth 100000 in
set_option maxHeartbeats 2000000 in
theorem cloneB_any (base : Nat) (a : Option Addr) (n c : Nat) (A : List (List UInt8)) (w : World) (h : RdB w base a n A) (hbase : base ≤ w.heap.size) (hn : n ≤ 1000000) :
    Calls Tryz.prog 62 #[.slice a n c] w fun e w' => ∃ a' c', e = .returned (.slice a' n c') ∧ OwnB w' base a' n c' A ∧ Ext w w' := by
  have hnil := fun W (a : Option Addr) (n c : Nat) => Lib.run_eql_slice_nil (P := Tryz.prog) W 59 27 a n c 0 0 Tryz.underlying59
  cases a with
  | none =>
    obtain rfl : n = 0 := by
      obtain ⟨_, xs, h2, h3, _⟩ := h
      rcases h3 with h3 | ⟨_, _, h3, _⟩
      · subst h3; simpa using h2.symm
      · cases h3
    obtain rfl : A = [] := List.eq_nil_of_length_eq_zero h.1
    go_enter Tryz.func62, Tryz.ntmps62
    go_wp2
    go_ret
    exact ⟨_, _, rfl, OwnB.nil _ _, (by repeat (first | (with_reducible first | exact Ext.refl _ | assumption | apply Ext.alloc | apply Ext.ext | apply Ext.drew | refine Ext.setCell ?_ ?_ _) | (focus (simp [go_sem]; done))))⟩
  | some ad =>
    go_enter Tryz.func62, Tryz.ntmps62
    go_wp2_with (at_builtin; refine wpList_append_bs V8 rfl _ _ rfl base _ 0 0 [] rfl _ n c A rfl ((OwnB.empty _).mono0 hbase) (h.ext (Ext.of_alloc _ _)) (by omega) (by simp; omega) ?_; intro sa2 sc2 w2 hO2 hg2 hB2)
    go_ret
    simp only [Nat.zero_add, List.nil_append] at hO2
    refine ⟨_, _, rfl, hO2, ?_⟩
    have hx0 : Ext w (w.alloc (.cells #[] 27)) := (by repeat (first | (with_reducible first | exact Ext.refl _ | assumption | apply Ext.alloc | apply Ext.ext | apply Ext.drew | refine Ext.setCell ?_ ?_ _) | (focus (simp [go_sem]; done))))
    exact Below.grown hx0 hg2 (by simp) (fun g hg => by have e : w.heap.size = g := Option.some.inj hg; omega)

set_option maxRecDepth 100000 in
set_option maxHeartbeats 4000000 in
theorem astream_any (a b c : Option Addr) (ca cb cc n : Nat) (ky t l : List UInt8) (w : World) (hk : Sl w a 32 ky) (hca : 32 ≤ ca) (ht : Sl w b 16 t) (hl : Sl w c n l) (hn : n ≤ 65535) :
    Calls Tryz.prog 43 #[.slice a 32 ca, .slice b 16 cb, .slice c n cc] w (Read2 n (stream (ky.drop 16) (ctrOf t) l) (.int .i64 0) w) := by
  have htl := ht.len
  obtain ⟨b0, o0, rfl, hb0, _⟩ := hk.at 0 (by omega)
  have hk2 : Sl w (some ⟨b0, o0 + 16, none⟩) 16 (ky.drop 16) := by
    have := hk.drop ca 16 hca
    unfold sAdr at this
    rw [if_neg (by omega)] at this
    simpa [addr_add] using this
  have hC := Lib.hid (show ctrOf t = (t.set 8 (at' t 8 &&& 127)).set 12 (at' t 12 &&& 127) from rfl)
  have h12 : (t.set 8 (at' t 8 &&& 127)).getD 12 0 = at' t 12 := by simp [at', List.getD, List.getElem?_set]
  have q : (16 : Int) ≤ (ca : Int) := by omega
  go_enter Tryz.func43, Tryz.ntmps43
  go_wp2_with fail; (with_reducible refine (clone_any _ 16 _ t _ ht (by omega)).mono ?_); rintro e w1 ⟨a1, c1, rfl, hO1, hx1⟩
  obtain ⟨g, rfl, hg, hgb, hcell8, hfr8, _⟩ := hO1.at 8 (by omega)
  obtain ⟨_, e1, _, _, hcell12, hfr12, _⟩ := hO1.at 12 (by omega)
  injection e1 with e1
  injection e1 with e1 _
  subst e1
  have hle := hO1.le
  have hO2 := hO1.put 8 (by omega) (at' t 8 &&& 127)
  have hO3 := hO2.put 12 (by omega) (at' t 12 &&& 127)
  rw [← hC.out] at hO3
  have hx3 : Ext w ((w1.setCell ⟨g, 8, none⟩ (.int .u8 (n8 (at' t 8 &&& 127)))).setCell ⟨g, 12, none⟩ (.int .u8 (n8 (at' t 12 &&& 127)))) := Ext.setCell (Ext.setCell hx1 hg _) hg _
  rw [show t.getD 8 0 = at' t 8 from rfl] at hcell8
  rw [show t.getD 12 0 = at' t 12 from rfl] at hcell12
  clear h12 hO1 hO2
  go_wp2_with fail
  (refine (stream_any _ _ _ _ _ _ n (ky.drop 16) (ctrOf t) l _ (hk2.ext hx3) (by omega) hO3.sl hle.1 (hl.ext hx3) hn).mono ?_; rintro e _ ⟨_, _, rfl, hS, hc, hx⟩)
  go_wp2_with fail
  go_ret2
  exact ⟨_, _, rfl, hS, hc, hx3.trans hx⟩
end Go.Proofs.YtbfgeokngekdmaaGreat

/- Layer 6 of the program: Tag, Seal, Open. -/
namespace Go.Proofs.YtbfgeokngekdmaaGreat
open Go.RowKit Go.Sec Go.Oct Go.Aes BigFrame

theorem ne0 {e : Int} (h : e ≠ 0) : (e != 0) = true := by rw [bne_iff_ne]; exact h

set_option maxRecDepth 100000 in
set_option maxHeartbeats 4000000 in
theorem tag_any (a b c : Option Addr) (n ca m cb k cc : Nat) (ky : List UInt8) (A : List (List UInt8)) (p : List UInt8) (w : World) (hk : Sl w a n ky) (hca : n ≤ ca) (hA : Bsc w b m A) (hm : m ≤ 1000000) (hp : Sl w c k p) (hkc : k ≤ cc) :
    Calls Tryz.prog 44 #[.slice a n ca, .slice b m cb, .slice c k cc] w (Read2 (tagE ky A p).1.length (tagE ky A p).1 (.int .i64 (tagE ky A p).2) w) := by
  have hc := fun w h1 h2 => check_any a b n ca m cb ky A w h1 h2 hm
  have hpl := hp.len
  by_cases h0 : checkA ky A = 0
  · rw [h0] at hc
    obtain ⟨h32, h16, hmx⟩ := checkA_ok h0
    rw [hk.len] at h32
    rw [hA.len] at h16
    subst h32
    by_cases hl : 65519 < k
    · have e : tagE ky A p = ([], 2) := by unfold tagE; rw [if_neg (by rw [h0]; simp), if_pos (by omega)]
      rw [e]
      have hI : (65519 : Int) < (k : Int) := by omega
      clear e h0 hmx hpl
      go_enter Tryz.func44, Tryz.ntmps44
      go_wp2_with (first | (go_at_call 42; (with_reducible refine (hc ?_ ?hq49 ?hq50).mono ?_); (case hq49 => (repeat' (first | with_reducible assumption | (with_reducible exact zeros16 _) | (with_reducible exact sl_new1 _ _ _) | (with_reducible first | apply Sl.upE | apply Sl.upA | apply Sl.upD)))); (case hq50 => (repeat' (first | with_reducible assumption | (refine bsc2 ?_ ?_ ?_ ?_ _; (· (repeat' (first | with_reducible assumption | (with_reducible exact zeros16 _) | (with_reducible exact sl_new1 _ _ _) | (with_reducible first | apply Sl.upE | apply Sl.upA | apply Sl.upD)))); (· omega); (· (repeat' (first | with_reducible assumption | (with_reducible exact zeros16 _) | (with_reducible exact sl_new1 _ _ _) | (with_reducible first | apply Sl.upE | apply Sl.upA | apply Sl.upD)))); (· omega)) | (with_reducible first | apply Bsc.upE | apply Bsc.upA | apply Bsc.upD)))); rintro e w1 ⟨rfl, hxq⟩; obtain ⟨xq, rfl⟩ := hxq.out; clear hxq) | fail)
      go_ret2
      exact read2_err _ _ _ (by repeat (first | (with_reducible first | exact Ext.refl _ | assumption | apply Ext.alloc | apply Ext.ext | apply Ext.drew | refine Ext.setCell ?_ ?_ _) | (focus (simp [go_sem]; done))))
    · rw [tagE_ok h0 (by omega)]
      show Calls _ _ _ _ (Read2 (s2v _ _).length _ _ _)
      rw [s2v_length]
      have hmax : ∀ x ∈ A ++ [p], x.length ≤ 65535 := by
        intro x hx
        rcases List.mem_append.1 hx with h | h
        · have := hmx x h; omega
        · simp only [List.mem_singleton] at h; subst h; omega
      have hI : decide ((65519 : Int) < (k : Int)) = false := by simp; omega
      have q : (16 : Int) ≤ (ca : Int) := by omega
      clear h0 hmx hpl
      go_enter Tryz.func44, Tryz.ntmps44
      go_wp2_with (first | (go_at_call 42; (with_reducible refine (hc ?_ ?hq51 ?hq52).mono ?_); (case hq51 => (repeat' (first | with_reducible assumption | (with_reducible exact zeros16 _) | (with_reducible exact sl_new1 _ _ _) | (with_reducible first | apply Sl.upE | apply Sl.upA | apply Sl.upD)))); (case hq52 => (repeat' (first | with_reducible assumption | (refine bsc2 ?_ ?_ ?_ ?_ _; (· (repeat' (first | with_reducible assumption | (with_reducible exact zeros16 _) | (with_reducible exact sl_new1 _ _ _) | (with_reducible first | apply Sl.upE | apply Sl.upA | apply Sl.upD)))); (· omega); (· (repeat' (first | with_reducible assumption | (with_reducible exact zeros16 _) | (with_reducible exact sl_new1 _ _ _) | (with_reducible first | apply Sl.upE | apply Sl.upA | apply Sl.upD)))); (· omega)) | (with_reducible first | apply Bsc.upE | apply Bsc.upA | apply Bsc.upD)))); rintro e w1 ⟨rfl, hxq⟩; obtain ⟨xq, rfl⟩ := hxq.out; clear hxq) | fail)
      have hxW : Ext w (w.ext xq) := (by repeat (first | (with_reducible first | exact Ext.refl _ | assumption | apply Ext.alloc | apply Ext.ext | apply Ext.drew | refine Ext.setCell ?_ ?_ _) | (focus (simp [go_sem]; done))))
      generalize w.ext xq = W at *
      have hkW := (hk.ext hxW).take 16 (by omega)
      have hRB := (hA.ext hxW).rdB
      have hpW := hp.ext hxW
      have hSE : ∀ w', Ext (W) w' → (Ext (W)) w' := (fun _ h => h); have hExt0 : Ext (W) (W).drew := Ext.drew (Ext.refl _); refine wp_region_held_drew (S := Ext (W)) (by kernel_rfl) (hSE _ hExt0) (fun hHeld => ?_)
      refine wpAnyH_take (i := 0) (v := ?v36) rfl (by kernel_rfl) (by kernel_rfl) (by kernel_rfl) (fun _ _ _ h => h) (Or.inl ⟨by rfl, ?hy36⟩) hHeld ?_; (case hy36 => (intro w' hx; simp [go_sem, execOp, *]; (try simp (disch := omega) only [Go.IntWalk.i64_in, Go.IntWalk.rem_in, Go.IntWalk.wrap64_in]); rfl)); (try simp only [List.getElem_toArray, List.getElem_cons_succ, List.getElem_cons_zero, Act.put, List.setIfInBounds_toArray, List.set_cons_succ, List.set_cons_zero])
      refine wpAnyH_take (i := 1) (v := ?v37) rfl (by kernel_rfl) (by kernel_rfl) (by kernel_rfl) (fun _ _ _ h => h) (Or.inl ⟨by rfl, ?hy37⟩) hHeld ?_; (case hy37 => (intro w' hx; simp [go_sem, execOp, *]; (try simp (disch := omega) only [Go.IntWalk.i64_in, Go.IntWalk.rem_in, Go.IntWalk.wrap64_in]); rfl)); (try simp only [List.getElem_toArray, List.getElem_cons_succ, List.getElem_cons_zero, Act.put, List.setIfInBounds_toArray, List.set_cons_succ, List.set_cons_zero])
      refine wpAnyH_take (i := 2) (v := ?v38) rfl (by kernel_rfl) (by kernel_rfl) (by kernel_rfl) (fun _ _ _ h => h) (Or.inl ⟨by rfl, ?hy38⟩) hHeld ?_; (case hy38 => (intro w' hx; simp [go_sem, execOp, *]; (try simp (disch := omega) only [Go.IntWalk.i64_in, Go.IntWalk.rem_in, Go.IntWalk.wrap64_in]); rfl)); (try simp only [List.getElem_toArray, List.getElem_cons_succ, List.getElem_cons_zero, Act.put, List.setIfInBounds_toArray, List.set_cons_succ, List.set_cons_zero])
      refine wpAnyH_take (i := 4) (v := ?v39) rfl (by kernel_rfl) (by kernel_rfl) (by kernel_rfl) (fun _ _ _ h => h) (Or.inl ⟨by rfl, ?hy39⟩) hHeld ?_; (case hy39 => (intro w' hx; simp [go_sem, execOp, *]; (try simp (disch := omega) only [Go.IntWalk.i64_in, Go.IntWalk.rem_in, Go.IntWalk.wrap64_in]); rfl)); (try simp only [List.getElem_toArray, List.getElem_cons_succ, List.getElem_cons_zero, Act.put, List.setIfInBounds_toArray, List.set_cons_succ, List.set_cons_zero])
      refine R5.any_late2 6 8 [[], [0], [], [2], [], [4], [2, 3, 4, 5], [0, 1, 2, 3, 4, 5, 6], [0, 1, 2, 3, 4, 5, 6, 7], [0, 1, 2, 3, 4, 5, 6, 7], [0, 1, 2, 3, 4, 5, 6, 7, 8, 9], [0, 1, 2, 3, 4, 5, 6, 7, 8, 9, 10]] [0, 1, 2, 4] #[true, true, true, true, true, true, true, true, false, false, false, false] 4 hExt0 hSE (by kernel_rfl) (by kernel_rfl) (by kernel_rfl) (by kernel_rfl) (by kernel_rfl) (by kernel_rfl) ?_; simp only [List.take_succ_cons, List.take_zero, List.drop_succ_cons, List.drop_zero, List.take_nil, List.drop_nil, Nat.reduceSub]
      refine R5.VD_taken rfl ?_
      refine R5.VD_taken rfl ?_
      refine R5.VD_taken rfl ?_
      (refine R5.VD_vag rfl (fun p => .slice (p 0).1 m (p 0).2) (fun p w'' => OwnB w'' W.heap.size (p 0).1 m (p 0).2 A) (fun p w w' h hx => h.ext hx) (fun us w' hx hf => ⟨rfl, ?_⟩) ?_; (unfold gives; simp [go_sem, execOp]; exact R5.vag_rows (cloneB_any W.heap.size _ _ _ _ _ (hRB.ext hx) hx.size (by omega))))
      refine R5.VD_taken rfl ?_
      (refine R5.VD_vag rfl (fun p => .slice (p 0).1 1 1) (fun p w'' => Rd w'' (p 0).1 [.slice c k cc]) (fun p w w' h hx => h.ext hx) (fun us w' hx hf => ⟨rfl, ?_⟩) ?_; (unfold gives; simp [go_sem, execOp]; exact ⟨fun _ => (some ⟨w'.heap.size, 0, none⟩, 0), rfl, Ext.of_alloc _ _, (Blk.new _ _ _).rd⟩))
      (refine R5.VD_nil ?_; intro us w' hx hf; obtain ⟨x, rfl⟩ := hx.out; (try simp only [Act.put, List.setIfInBounds_toArray, List.set_cons_succ, List.set_cons_zero, wpList_none]); (try simp only [List.mem_cons, List.not_mem_nil, or_false, forall_eq_or_imp, forall_eq, List.nil_append, List.cons_append, List.mem_append, false_or, true_and, and_true] at hf); (try simp only [Nat.reduceAdd, Nat.zero_add] at hf); (try simp only [Nat.reduceAdd, Nat.zero_add]))
      obtain ⟨hO1, hR2⟩ := hf
      (refine R5.chain_append_bs hSE V8 rfl rfl _ _ rfl (W.heap.size) _ m _ (A) rfl _ 1 1 ([p]) rfl (hO1) (RdB.one hR2 (hpW.ext hx) hkc (hpW.inB _)) (by omega) (hx.size) (Nat.le_refl _) (hx) ?_; intro sa2 sc2 w2 hOa hg2 hB2 hx2)
      have hBs := hOa.bsc
      have hle := hOa.le
      have hk2 := hkW.ext hx2
      (refine R5.chain_cons rfl rfl ?_; unfold gives; simp [go_sem, execOp]; (with_reducible refine (vector_any ?_ ?_ ?_ ?_ ?_ (ky.take 16) (A ++ [p]) ?_ ?hq44 ?hq45 ?hq46 ?hq47 ?hq48 hmax).mono ?_); (case hq44 => (repeat' (first | with_reducible assumption | (with_reducible exact zeros16 _) | (with_reducible exact sl_new1 _ _ _) | (with_reducible first | apply Sl.upE | apply Sl.upA | apply Sl.upD)))); (case hq46 => (repeat' (first | with_reducible assumption | (refine bsc2 ?_ ?_ ?_ ?_ _; (· (repeat' (first | with_reducible assumption | (with_reducible exact zeros16 _) | (with_reducible exact sl_new1 _ _ _) | (with_reducible first | apply Sl.upE | apply Sl.upA | apply Sl.upD)))); (· omega); (· (repeat' (first | with_reducible assumption | (with_reducible exact zeros16 _) | (with_reducible exact sl_new1 _ _ _) | (with_reducible first | apply Sl.upE | apply Sl.upA | apply Sl.upD)))); (· omega)) | (with_reducible first | apply Bsc.upE | apply Bsc.upA | apply Bsc.upD)))); (case hq45 => omega); (case hq47 => omega); (case hq48 => omega); rintro e _ ⟨_, _, rfl, hS, hc, hx⟩; obtain ⟨_, rfl⟩ := hx.out; clear hx; refine ⟨_, rfl, hSE _ (by repeat (first | (with_reducible first | exact Ext.refl _ | assumption | apply Ext.alloc | apply Ext.ext | apply Ext.drew | refine Ext.setCell ?_ ?_ _) | (focus (simp [go_sem]; done)))), ?_⟩; (try simp only [List.getElem_toArray, List.getElem_cons_succ, List.getElem_cons_zero, Act.put, List.setIfInBounds_toArray, List.set_cons_succ, List.set_cons_zero]))
      (refine R5.chain_nil ?_)
      refine wpAnyH_take (i := 8) (v := ?v40) rfl (by kernel_rfl) (by kernel_rfl) (by kernel_rfl) (fun _ _ _ h => h) (Or.inl ⟨by rfl, ?hy40⟩) (hSE _ (by repeat (first | (with_reducible first | exact Ext.refl _ | assumption | apply Ext.alloc | apply Ext.ext | apply Ext.drew | refine Ext.setCell ?_ ?_ _) | (focus (simp [go_sem]; done))))) ?_; (case hy40 => (intro w' hx; simp [go_sem, execOp, *]; (try simp (disch := omega) only [Go.IntWalk.i64_in, Go.IntWalk.rem_in, Go.IntWalk.wrap64_in]); rfl)); (try simp only [List.getElem_toArray, List.getElem_cons_succ, List.getElem_cons_zero, Act.put, List.setIfInBounds_toArray, List.set_cons_succ, List.set_cons_zero])
      refine wpAnyH_take (i := 9) (v := ?v41) rfl (by kernel_rfl) (by kernel_rfl) (by kernel_rfl) (fun _ _ _ h => h) (Or.inl ⟨by rfl, ?hy41⟩) (hSE _ (by repeat (first | (with_reducible first | exact Ext.refl _ | assumption | apply Ext.alloc | apply Ext.ext | apply Ext.drew | refine Ext.setCell ?_ ?_ _) | (focus (simp [go_sem]; done))))) ?_; (case hy41 => (intro w' hx; simp [go_sem, execOp, *]; (try simp (disch := omega) only [Go.IntWalk.i64_in, Go.IntWalk.rem_in, Go.IntWalk.wrap64_in]); rfl)); (try simp only [List.getElem_toArray, List.getElem_cons_succ, List.getElem_cons_zero, Act.put, List.setIfInBounds_toArray, List.set_cons_succ, List.set_cons_zero])
      refine wpAnyH_take (i := 10) (v := ?v42) rfl (by kernel_rfl) (by kernel_rfl) (by kernel_rfl) (fun _ _ _ h => h) (Or.inl ⟨by rfl, ?hy42⟩) (hSE _ (by repeat (first | (with_reducible first | exact Ext.refl _ | assumption | apply Ext.alloc | apply Ext.ext | apply Ext.drew | refine Ext.setCell ?_ ?_ _) | (focus (simp [go_sem]; done))))) ?_; (case hy42 => (intro w' hx; simp [go_sem, execOp, *]; (try simp (disch := omega) only [Go.IntWalk.i64_in, Go.IntWalk.rem_in, Go.IntWalk.wrap64_in]); rfl)); (try simp only [List.getElem_toArray, List.getElem_cons_succ, List.getElem_cons_zero, Act.put, List.setIfInBounds_toArray, List.set_cons_succ, List.set_cons_zero])
      refine wpAnyH_take (i := 11) (v := ?v43) rfl (by kernel_rfl) (by kernel_rfl) (by kernel_rfl) (fun _ _ _ h => h) (Or.inl ⟨by rfl, ?hy43⟩) (hSE _ (by repeat (first | (with_reducible first | exact Ext.refl _ | assumption | apply Ext.alloc | apply Ext.ext | apply Ext.drew | refine Ext.setCell ?_ ?_ _) | (focus (simp [go_sem]; done))))) ?_; (case hy43 => (intro w' hx; simp [go_sem, execOp, *]; (try simp (disch := omega) only [Go.IntWalk.i64_in, Go.IntWalk.rem_in, Go.IntWalk.wrap64_in]); rfl)); (try simp only [List.getElem_toArray, List.getElem_cons_succ, List.getElem_cons_zero, Act.put, List.setIfInBounds_toArray, List.set_cons_succ, List.set_cons_zero])
      refine wpAnyH_done (by kernel_rfl) ?_ _
      go_wp2
      go_ret2
      exact ⟨_, _, rfl, hS, hc, hxW.trans (by repeat (first | (with_reducible first | exact Ext.refl _ | assumption | apply Ext.alloc | apply Ext.ext | apply Ext.drew | refine Ext.setCell ?_ ?_ _) | (focus (simp [go_sem]; done))))⟩
  · have e : tagE ky A p = ([], checkA ky A) := by unfold tagE; rw [if_pos h0]
    rw [e]
    have hI := ne0 h0
    generalize checkA ky A = v at *
    clear e h0
    go_enter Tryz.func44, Tryz.ntmps44
    go_wp2_with (first | (go_at_call 42; (with_reducible refine (hc ?_ ?hq53 ?hq54).mono ?_); (case hq53 => (repeat' (first | with_reducible assumption | (with_reducible exact zeros16 _) | (with_reducible exact sl_new1 _ _ _) | (with_reducible first | apply Sl.upE | apply Sl.upA | apply Sl.upD)))); (case hq54 => (repeat' (first | with_reducible assumption | (refine bsc2 ?_ ?_ ?_ ?_ _; (· (repeat' (first | with_reducible assumption | (with_reducible exact zeros16 _) | (with_reducible exact sl_new1 _ _ _) | (with_reducible first | apply Sl.upE | apply Sl.upA | apply Sl.upD)))); (· omega); (· (repeat' (first | with_reducible assumption | (with_reducible exact zeros16 _) | (with_reducible exact sl_new1 _ _ _) | (with_reducible first | apply Sl.upE | apply Sl.upA | apply Sl.upD)))); (· omega)) | (with_reducible first | apply Bsc.upE | apply Bsc.upA | apply Bsc.upD)))); rintro e w1 ⟨rfl, hxq⟩; obtain ⟨xq, rfl⟩ := hxq.out; clear hxq) | fail)
    go_ret2
    exact read2_err _ _ _ (by repeat (first | (with_reducible first | exact Ext.refl _ | assumption | apply Ext.alloc | apply Ext.ext | apply Ext.drew | refine Ext.setCell ?_ ?_ _) | (focus (simp [go_sem]; done))))

set_option maxRecDepth 100000 in
set_option maxHeartbeats 4000000 in
theorem seal_any (a b c : Option Addr) (n ca m cb k cc : Nat) (ky : List UInt8) (A : List (List UInt8)) (p : List UInt8) (w : World) (hk : Sl w a n ky) (hca : n ≤ ca) (hA : Bsc w b m A) (hm : m ≤ 1000000) (hp : Sl w c k p) (hkc : k ≤ cc) :
    Calls Tryz.prog 69 #[.slice a n ca, .slice b m cb, .slice c k cc] w (Read2 (sealE ky A p).1.length (sealE ky A p).1 (.int .i64 (sealE ky A p).2) w) := by
  have ht := fun w h1 h3 h5 => tag_any a b c n ca m cb k cc ky A p w h1 hca h3 hm h5 hkc
  by_cases h0 : (tagE ky A p).2 = 0
  · obtain ⟨h16, hck, hpl⟩ := tagE_len h0
    obtain ⟨h32, _, _⟩ := checkA_ok hck
    rw [hk.len] at h32
    rw [hp.len] at hpl
    subst h32
    have e := Lib.hid (show sealE ky A p = ((tagE ky A p).1 ++ stream (ky.drop 16) (ctrOf (tagE ky A p).1) p, 0) by unfold sealE; rw [if_neg (by simpa using h0)])
    rw [h0, h16] at ht
    have hsl := stream_length (ky.drop 16) (ctrOf (tagE ky A p).1) p
    rw [hp.len] at hsl
    have hst := fun a1 c1 w h1 h2 h3 h4 => astream_any a a1 c ca c1 cc k ky (tagE ky A p).1 p w h1 h2 h3 h4 (by omega)
    generalize stream (ky.drop 16) (ctrOf (tagE ky A p).1) p = st at *
    generalize (tagE ky A p).1 = tg at *
    rw [e.out]
    have hll : (tg ++ st).length = 16 + k := by rw [List.length_append, h16, hsl]
    show Calls _ _ _ _ (Read2 (tg ++ st).length _ _ _)
    rw [hll]
    clear h0 hck
    have hj : joinL [tg, st] = tg ++ st := by simp [joinL]
    have hjl : (joinL [tg, st]).length = 16 + k := by rw [hj, hll]
    have HJ := Lib.hid hj
    clear hj
    go_enter Tryz.func69, Tryz.ntmps69
    go_wp2_with (first
      | (go_at_call 44; (with_reducible refine (ht ?_ ?hq55 ?hq56 ?hq57).mono ?_); (case hq55 => (repeat' (first | with_reducible assumption | (with_reducible exact zeros16 _) | (with_reducible exact sl_new1 _ _ _) | (with_reducible first | apply Sl.upE | apply Sl.upA | apply Sl.upD)))); (case hq56 => (repeat' (first | with_reducible assumption | (refine bsc2 ?_ ?_ ?_ ?_ _; (· (repeat' (first | with_reducible assumption | (with_reducible exact zeros16 _) | (with_reducible exact sl_new1 _ _ _) | (with_reducible first | apply Sl.upE | apply Sl.upA | apply Sl.upD)))); (· omega); (· (repeat' (first | with_reducible assumption | (with_reducible exact zeros16 _) | (with_reducible exact sl_new1 _ _ _) | (with_reducible first | apply Sl.upE | apply Sl.upA | apply Sl.upD)))); (· omega)) | (with_reducible first | apply Bsc.upE | apply Bsc.upA | apply Bsc.upD)))); (case hq57 => (repeat' (first | with_reducible assumption | (with_reducible exact zeros16 _) | (with_reducible exact sl_new1 _ _ _) | (with_reducible first | apply Sl.upE | apply Sl.upA | apply Sl.upD)))); rintro e _ ⟨_, _, rfl, hS, hc, hx⟩; obtain ⟨_, rfl⟩ := hx.out; clear hx)
      | (go_at_call 43; (with_reducible refine (hst ?_ ?_ ?_ ?hq58 ?hq59 ?hq60 ?hq61).mono ?_); (case hq58 => (repeat' (first | with_reducible assumption | (with_reducible exact zeros16 _) | (with_reducible exact sl_new1 _ _ _) | (with_reducible first | apply Sl.upE | apply Sl.upA | apply Sl.upD)))); (case hq60 => (repeat' (first | with_reducible assumption | (with_reducible exact zeros16 _) | (with_reducible exact sl_new1 _ _ _) | (with_reducible first | apply Sl.upE | apply Sl.upA | apply Sl.upD)))); (case hq61 => (repeat' (first | with_reducible assumption | (with_reducible exact zeros16 _) | (with_reducible exact sl_new1 _ _ _) | (with_reducible first | apply Sl.upE | apply Sl.upA | apply Sl.upD)))); (case hq59 => omega); rintro e _ ⟨_, _, rfl, hS, hc, hx⟩; obtain ⟨_, rfl⟩ := hx.out; clear hx)
      | fail)
    (with_reducible refine (ojoin_any _ _ _ [tg, st] _ (bss2 ?h1 ?h2 _) (by omega) (16 + k) hjl (by omega)).mono ?_)
    case h1 => exact (by (repeat' (first | with_reducible assumption | (with_reducible exact zeros16 _) | (with_reducible exact sl_new1 _ _ _) | (with_reducible first | apply Sl.upE | apply Sl.upA | apply Sl.upD))))
    case h2 => exact (by (repeat' (first | with_reducible assumption | (with_reducible exact zeros16 _) | (with_reducible exact sl_new1 _ _ _) | (with_reducible first | apply Sl.upE | apply Sl.upA | apply Sl.upD))))
    rintro e _ ⟨_, _, rfl, hO, hx⟩
    obtain ⟨_, rfl⟩ := hx.out
    clear hx
    go_wp2
    rw [HJ.out] at hO
    go_ret2
    exact ⟨_, _, rfl, hO.sl, hO.le.1, (by repeat (first | (with_reducible first | exact Ext.refl _ | assumption | apply Ext.alloc | apply Ext.ext | apply Ext.drew | refine Ext.setCell ?_ ?_ _) | (focus (simp [go_sem]; done))))⟩
  · have e : sealE ky A p = ([], (tagE ky A p).2) := by unfold sealE; rw [if_pos h0]
    rw [e]
    have hI := ne0 h0
    generalize (tagE ky A p).2 = v at *
    generalize (tagE ky A p).1 = tg at *
    clear e h0
    go_enter Tryz.func69, Tryz.ntmps69
    go_wp2_with (first | (go_at_call 44; (with_reducible refine (ht ?_ ?hq62 ?hq63 ?hq64).mono ?_); (case hq62 => (repeat' (first | with_reducible assumption | (with_reducible exact zeros16 _) | (with_reducible exact sl_new1 _ _ _) | (with_reducible first | apply Sl.upE | apply Sl.upA | apply Sl.upD)))); (case hq63 => (repeat' (first | with_reducible assumption | (refine bsc2 ?_ ?_ ?_ ?_ _; (· (repeat' (first | with_reducible assumption | (with_reducible exact zeros16 _) | (with_reducible exact sl_new1 _ _ _) | (with_reducible first | apply Sl.upE | apply Sl.upA | apply Sl.upD)))); (· omega); (· (repeat' (first | with_reducible assumption | (with_reducible exact zeros16 _) | (with_reducible exact sl_new1 _ _ _) | (with_reducible first | apply Sl.upE | apply Sl.upA | apply Sl.upD)))); (· omega)) | (with_reducible first | apply Bsc.upE | apply Bsc.upA | apply Bsc.upD)))); (case hq64 => (repeat' (first | with_reducible assumption | (with_reducible exact zeros16 _) | (with_reducible exact sl_new1 _ _ _) | (with_reducible first | apply Sl.upE | apply Sl.upA | apply Sl.upD)))); rintro e _ ⟨_, _, rfl, hS, hc, hx⟩; obtain ⟨_, rfl⟩ := hx.out; clear hx) | fail)
    go_ret2
    exact read2_err _ _ _ (by repeat (first | (with_reducible first | exact Ext.refl _ | assumption | apply Ext.alloc | apply Ext.ext | apply Ext.drew | refine Ext.setCell ?_ ?_ _) | (focus (simp [go_sem]; done))))

set_option maxRecDepth 100000 in
set_option maxHeartbeats 4000000 in
theorem open_any (a b c : Option Addr) (n ca m cb k cc : Nat) (ky : List UInt8) (A : List (List UInt8)) (s : List UInt8) (w : World) (hk : Sl w a n ky) (hca : n ≤ ca) (hA : Bsc w b m A) (hm : m ≤ 1000000) (hs : Sl w c k s) (hkc : k ≤ cc) :
    Calls Tryz.prog 27 #[.slice a n ca, .slice b m cb, .slice c k cc] w (Read2 (openE ky A s).1.length (openE ky A s).1 (.int .i64 (openE ky A s).2) w) := by
  have hc := fun w h1 h2 => check_any a b n ca m cb ky A w h1 h2 hm
  have hsl := hs.len
  by_cases h0 : checkA ky A = 0
  · obtain ⟨h32, _, _⟩ := checkA_ok h0
    rw [hk.len] at h32
    subst h32
    by_cases hl : 65535 < k
    · have e : openE ky A s = ([], 2) := by unfold openE; rw [if_neg (by rw [h0]; simp), if_pos (by omega)]
      rw [e]
      rw [h0] at hc
      have hI : (65535 : Int) < (k : Int) := by omega
      clear e h0 hsl
      go_enter Tryz.func27, Tryz.ntmps27
      go_wp2_with (first | (go_at_call 42; (with_reducible refine (hc ?_ ?hq81 ?hq82).mono ?_); (case hq81 => (repeat' (first | with_reducible assumption | (with_reducible exact zeros16 _) | (with_reducible exact sl_new1 _ _ _) | (with_reducible first | apply Sl.upE | apply Sl.upA | apply Sl.upD)))); (case hq82 => (repeat' (first | with_reducible assumption | (refine bsc2 ?_ ?_ ?_ ?_ _; (· (repeat' (first | with_reducible assumption | (with_reducible exact zeros16 _) | (with_reducible exact sl_new1 _ _ _) | (with_reducible first | apply Sl.upE | apply Sl.upA | apply Sl.upD)))); (· omega); (· (repeat' (first | with_reducible assumption | (with_reducible exact zeros16 _) | (with_reducible exact sl_new1 _ _ _) | (with_reducible first | apply Sl.upE | apply Sl.upA | apply Sl.upD)))); (· omega)) | (with_reducible first | apply Bsc.upE | apply Bsc.upA | apply Bsc.upD)))); rintro e w1 ⟨rfl, hxq⟩; obtain ⟨xq, rfl⟩ := hxq.out; clear hxq) | fail)
      go_ret2
      exact read2_err _ _ _ (by repeat (first | (with_reducible first | exact Ext.refl _ | assumption | apply Ext.alloc | apply Ext.ext | apply Ext.drew | refine Ext.setCell ?_ ?_ _) | (focus (simp [go_sem]; done))))
    · by_cases h16 : k < 16
      · have e : openE ky A s = ([], 1) := by unfold openE; rw [if_neg (by rw [h0]; simp), if_neg (by omega), if_pos (by omega)]
        rw [e]
        rw [h0] at hc
        have hI : ¬ (65535 : Int) < (k : Int) := by omega
        have hcut := fun w => cut_no c k cc 16 w (.inr (by omega))
        clear e h0 hsl
        go_enter Tryz.func27, Tryz.ntmps27
        go_wp2_with (first | (go_at_call 42; (with_reducible refine (hc ?_ ?hq83 ?hq84).mono ?_); (case hq83 => (repeat' (first | with_reducible assumption | (with_reducible exact zeros16 _) | (with_reducible exact sl_new1 _ _ _) | (with_reducible first | apply Sl.upE | apply Sl.upA | apply Sl.upD)))); (case hq84 => (repeat' (first | with_reducible assumption | (refine bsc2 ?_ ?_ ?_ ?_ _; (· (repeat' (first | with_reducible assumption | (with_reducible exact zeros16 _) | (with_reducible exact sl_new1 _ _ _) | (with_reducible first | apply Sl.upE | apply Sl.upA | apply Sl.upD)))); (· omega); (· (repeat' (first | with_reducible assumption | (with_reducible exact zeros16 _) | (with_reducible exact sl_new1 _ _ _) | (with_reducible first | apply Sl.upE | apply Sl.upA | apply Sl.upD)))); (· omega)) | (with_reducible first | apply Bsc.upE | apply Bsc.upA | apply Bsc.upD)))); rintro e w1 ⟨rfl, hxq⟩; obtain ⟨xq, rfl⟩ := hxq.out; clear hxq) | (go_at_call 28; refine (hcut _).mono ?_; rintro e w1 ⟨rfl, hxq⟩; obtain ⟨xq, rfl⟩ := hxq.out; clear hxq) | fail)
        go_ret2
        exact read2_err _ _ _ (by repeat (first | (with_reducible first | exact Ext.refl _ | assumption | apply Ext.alloc | apply Ext.ext | apply Ext.drew | refine Ext.setCell ?_ ?_ _) | (focus (simp [go_sem]; done))))
      · have e := Lib.hid (show openE ky A s = if (tagE ky A (plainOf ky s)).1 = s.take 16 then (plainOf ky s, 0) else ([], 6) by unfold openE; rw [if_neg (by rw [h0]; simp), if_neg (by omega), if_neg (by omega)])
        have htg : tagE ky A (plainOf ky s) = (s2v (ky.take 16) (A ++ [plainOf ky s]), 0) := tagE_ok h0 (by rw [plainOf_length]; omega)
        have ht := fun c cc w h1 h3 h5 h6 => tag_any a b c 32 ca m cb (k - 16) cc ky A (plainOf ky s) w h1 hca h3 hm h5 h6
        have hts : (s.take 16).length = 16 := by simp; omega
        have hpo : plainOf ky s = stream (ky.drop 16) (ctrOf (s.take 16)) (s.drop 16) := rfl
        have hst := fun a1 c1 a2 c2 w h1 h2 h3 h4 => astream_any a a1 a2 ca c1 c2 (k - 16) ky (s.take 16) (s.drop 16) w h1 h2 h3 h4 (by omega)
        rw [← hpo] at hst
        rw [htg] at ht
        rw [htg] at e
        have hpl : (plainOf ky s).length = k - 16 := by rw [plainOf_length]; omega
        have htl := s2v_length (ky.take 16) (A ++ [plainOf ky s])
        rw [h0] at hc
        have hI : ¬ (65535 : Int) < (k : Int) := by omega
        have hcut := fun w h => cut_ok c k cc s 16 w h (by omega) (by omega) hkc
        simp only [Int.cast_ofNat_Int] at hcut
        simp only at ht e
        rw [htl] at ht
        generalize s2v (ky.take 16) (A ++ [plainOf ky s]) = tg at *
        generalize plainOf ky s = pl at *
        generalize s.take 16 = s0 at *
        generalize s.drop 16 = s1 at *
        clear htg h0 hpo hsl
        rw [e.out]
        by_cases he : tg = s0
        · rw [if_pos he]
          show Calls _ _ _ _ (Read2 pl.length _ _ _)
          rw [hpl]
          have hb : (tg == s0) = true := by simpa using he
          clear he
          clear e
          go_enter Tryz.func27, Tryz.ntmps27
          go_wp2_with (first | (go_at_call 42; (with_reducible refine (hc ?_ ?hq85 ?hq86).mono ?_); (case hq85 => (repeat' (first | with_reducible assumption | (with_reducible exact zeros16 _) | (with_reducible exact sl_new1 _ _ _) | (with_reducible first | apply Sl.upE | apply Sl.upA | apply Sl.upD)))); (case hq86 => (repeat' (first | with_reducible assumption | (refine bsc2 ?_ ?_ ?_ ?_ _; (· (repeat' (first | with_reducible assumption | (with_reducible exact zeros16 _) | (with_reducible exact sl_new1 _ _ _) | (with_reducible first | apply Sl.upE | apply Sl.upA | apply Sl.upD)))); (· omega); (· (repeat' (first | with_reducible assumption | (with_reducible exact zeros16 _) | (with_reducible exact sl_new1 _ _ _) | (with_reducible first | apply Sl.upE | apply Sl.upA | apply Sl.upD)))); (· omega)) | (with_reducible first | apply Bsc.upE | apply Bsc.upA | apply Bsc.upD)))); rintro e w1 ⟨rfl, hxq⟩; obtain ⟨xq, rfl⟩ := hxq.out; clear hxq) | fail)
          refine (hcut _ (by (repeat' (first | with_reducible assumption | (with_reducible exact zeros16 _) | (with_reducible exact sl_new1 _ _ _) | (with_reducible first | apply Sl.upE | apply Sl.upA | apply Sl.upD))))).mono ?_
          rintro e _ ⟨_, _, _, _, rfl, hO1, hO2, hx⟩
          obtain ⟨_, rfl⟩ := hx.out
          have hl1 := hO1.le
          have hl2 := hO2.le
          have hS1 := hO1.sl
          have hS2 := hO2.sl
          clear hO1 hO2 hx
          go_wp2_with (first
            | (go_at_call 43; (with_reducible refine (hst ?_ ?_ ?_ ?_ ?_ ?hq65 ?hq66 ?hq67 ?hq68).mono ?_); (case hq65 => (repeat' (first | with_reducible assumption | (with_reducible exact zeros16 _) | (with_reducible exact sl_new1 _ _ _) | (with_reducible first | apply Sl.upE | apply Sl.upA | apply Sl.upD)))); (case hq67 => (repeat' (first | with_reducible assumption | (with_reducible exact zeros16 _) | (with_reducible exact sl_new1 _ _ _) | (with_reducible first | apply Sl.upE | apply Sl.upA | apply Sl.upD)))); (case hq68 => (repeat' (first | with_reducible assumption | (with_reducible exact zeros16 _) | (with_reducible exact sl_new1 _ _ _) | (with_reducible first | apply Sl.upE | apply Sl.upA | apply Sl.upD)))); (case hq66 => omega); rintro e _ ⟨_, _, rfl, hS, hc, hx⟩; obtain ⟨_, rfl⟩ := hx.out; clear hx)
            | (go_at_call 44; (with_reducible refine (ht ?_ ?_ ?_ ?hq69 ?hq70 ?hq71 ?hq72).mono ?_); (case hq69 => (repeat' (first | with_reducible assumption | (with_reducible exact zeros16 _) | (with_reducible exact sl_new1 _ _ _) | (with_reducible first | apply Sl.upE | apply Sl.upA | apply Sl.upD)))); (case hq70 => (repeat' (first | with_reducible assumption | (refine bsc2 ?_ ?_ ?_ ?_ _; (· (repeat' (first | with_reducible assumption | (with_reducible exact zeros16 _) | (with_reducible exact sl_new1 _ _ _) | (with_reducible first | apply Sl.upE | apply Sl.upA | apply Sl.upD)))); (· omega); (· (repeat' (first | with_reducible assumption | (with_reducible exact zeros16 _) | (with_reducible exact sl_new1 _ _ _) | (with_reducible first | apply Sl.upE | apply Sl.upA | apply Sl.upD)))); (· omega)) | (with_reducible first | apply Bsc.upE | apply Bsc.upA | apply Bsc.upD)))); (case hq71 => (repeat' (first | with_reducible assumption | (with_reducible exact zeros16 _) | (with_reducible exact sl_new1 _ _ _) | (with_reducible first | apply Sl.upE | apply Sl.upA | apply Sl.upD)))); (case hq72 => omega); rintro e _ ⟨_, _, rfl, hS, hc, hx⟩; obtain ⟨_, rfl⟩ := hx.out; clear hx)
            | (go_at_call 45; (with_reducible refine (osame_any ?_ ?_ ?_ ?_ ?_ ?_ tg s0 ?_ ?hq87 ?hq88).mono ?_); (case hq87 => (repeat' (first | with_reducible assumption | (with_reducible exact zeros16 _) | (with_reducible exact sl_new1 _ _ _) | (with_reducible first | apply Sl.upE | apply Sl.upA | apply Sl.upD)))); (case hq88 => (repeat' (first | with_reducible assumption | (with_reducible exact zeros16 _) | (with_reducible exact sl_new1 _ _ _) | (with_reducible first | apply Sl.upE | apply Sl.upA | apply Sl.upD)))); rintro e w1 ⟨rfl, hxq⟩; obtain ⟨xq, rfl⟩ := hxq.out; clear hxq)
            | fail)
          go_ret2
          exact ⟨_, _, rfl, (by (repeat' (first | with_reducible assumption | (with_reducible exact zeros16 _) | (with_reducible exact sl_new1 _ _ _) | (with_reducible first | apply Sl.upE | apply Sl.upA | apply Sl.upD)))), by omega, (by repeat (first | (with_reducible first | exact Ext.refl _ | assumption | apply Ext.alloc | apply Ext.ext | apply Ext.drew | refine Ext.setCell ?_ ?_ _) | (focus (simp [go_sem]; done))))⟩
        · rw [if_neg he]
          have hb : (tg == s0) = false := by simpa using he
          clear he
          clear e
          go_enter Tryz.func27, Tryz.ntmps27
          go_wp2_with (first | (go_at_call 42; (with_reducible refine (hc ?_ ?hq89 ?hq90).mono ?_); (case hq89 => (repeat' (first | with_reducible assumption | (with_reducible exact zeros16 _) | (with_reducible exact sl_new1 _ _ _) | (with_reducible first | apply Sl.upE | apply Sl.upA | apply Sl.upD)))); (case hq90 => (repeat' (first | with_reducible assumption | (refine bsc2 ?_ ?_ ?_ ?_ _; (· (repeat' (first | with_reducible assumption | (with_reducible exact zeros16 _) | (with_reducible exact sl_new1 _ _ _) | (with_reducible first | apply Sl.upE | apply Sl.upA | apply Sl.upD)))); (· omega); (· (repeat' (first | with_reducible assumption | (with_reducible exact zeros16 _) | (with_reducible exact sl_new1 _ _ _) | (with_reducible first | apply Sl.upE | apply Sl.upA | apply Sl.upD)))); (· omega)) | (with_reducible first | apply Bsc.upE | apply Bsc.upA | apply Bsc.upD)))); rintro e w1 ⟨rfl, hxq⟩; obtain ⟨xq, rfl⟩ := hxq.out; clear hxq) | fail)
          refine (hcut _ (by (repeat' (first | with_reducible assumption | (with_reducible exact zeros16 _) | (with_reducible exact sl_new1 _ _ _) | (with_reducible first | apply Sl.upE | apply Sl.upA | apply Sl.upD))))).mono ?_
          rintro e _ ⟨_, _, _, _, rfl, hO1, hO2, hx⟩
          obtain ⟨_, rfl⟩ := hx.out
          have hl1 := hO1.le
          have hl2 := hO2.le
          have hS1 := hO1.sl
          have hS2 := hO2.sl
          clear hO1 hO2 hx
          go_wp2_with (first
            | (go_at_call 43; (with_reducible refine (hst ?_ ?_ ?_ ?_ ?_ ?hq73 ?hq74 ?hq75 ?hq76).mono ?_); (case hq73 => (repeat' (first | with_reducible assumption | (with_reducible exact zeros16 _) | (with_reducible exact sl_new1 _ _ _) | (with_reducible first | apply Sl.upE | apply Sl.upA | apply Sl.upD)))); (case hq75 => (repeat' (first | with_reducible assumption | (with_reducible exact zeros16 _) | (with_reducible exact sl_new1 _ _ _) | (with_reducible first | apply Sl.upE | apply Sl.upA | apply Sl.upD)))); (case hq76 => (repeat' (first | with_reducible assumption | (with_reducible exact zeros16 _) | (with_reducible exact sl_new1 _ _ _) | (with_reducible first | apply Sl.upE | apply Sl.upA | apply Sl.upD)))); (case hq74 => omega); rintro e _ ⟨_, _, rfl, hS, hc, hx⟩; obtain ⟨_, rfl⟩ := hx.out; clear hx)
            | (go_at_call 44; (with_reducible refine (ht ?_ ?_ ?_ ?hq77 ?hq78 ?hq79 ?hq80).mono ?_); (case hq77 => (repeat' (first | with_reducible assumption | (with_reducible exact zeros16 _) | (with_reducible exact sl_new1 _ _ _) | (with_reducible first | apply Sl.upE | apply Sl.upA | apply Sl.upD)))); (case hq78 => (repeat' (first | with_reducible assumption | (refine bsc2 ?_ ?_ ?_ ?_ _; (· (repeat' (first | with_reducible assumption | (with_reducible exact zeros16 _) | (with_reducible exact sl_new1 _ _ _) | (with_reducible first | apply Sl.upE | apply Sl.upA | apply Sl.upD)))); (· omega); (· (repeat' (first | with_reducible assumption | (with_reducible exact zeros16 _) | (with_reducible exact sl_new1 _ _ _) | (with_reducible first | apply Sl.upE | apply Sl.upA | apply Sl.upD)))); (· omega)) | (with_reducible first | apply Bsc.upE | apply Bsc.upA | apply Bsc.upD)))); (case hq79 => (repeat' (first | with_reducible assumption | (with_reducible exact zeros16 _) | (with_reducible exact sl_new1 _ _ _) | (with_reducible first | apply Sl.upE | apply Sl.upA | apply Sl.upD)))); (case hq80 => omega); rintro e _ ⟨_, _, rfl, hS, hc, hx⟩; obtain ⟨_, rfl⟩ := hx.out; clear hx)
            | (go_at_call 45; (with_reducible refine (osame_any ?_ ?_ ?_ ?_ ?_ ?_ tg s0 ?_ ?hq91 ?hq92).mono ?_); (case hq91 => (repeat' (first | with_reducible assumption | (with_reducible exact zeros16 _) | (with_reducible exact sl_new1 _ _ _) | (with_reducible first | apply Sl.upE | apply Sl.upA | apply Sl.upD)))); (case hq92 => (repeat' (first | with_reducible assumption | (with_reducible exact zeros16 _) | (with_reducible exact sl_new1 _ _ _) | (with_reducible first | apply Sl.upE | apply Sl.upA | apply Sl.upD)))); rintro e w1 ⟨rfl, hxq⟩; obtain ⟨xq, rfl⟩ := hxq.out; clear hxq)
            | fail)
          go_ret2
          exact read2_err _ _ _ (by repeat (first | (with_reducible first | exact Ext.refl _ | assumption | apply Ext.alloc | apply Ext.ext | apply Ext.drew | refine Ext.setCell ?_ ?_ _) | (focus (simp [go_sem]; done))))
  · have e : openE ky A s = ([], checkA ky A) := by unfold openE; rw [if_pos h0]
    rw [e]
    have hI := ne0 h0
    generalize checkA ky A = v at *
    clear e h0
    go_enter Tryz.func27, Tryz.ntmps27
    go_wp2_with (first | (go_at_call 42; (with_reducible refine (hc ?_ ?hq93 ?hq94).mono ?_); (case hq93 => (repeat' (first | with_reducible assumption | (with_reducible exact zeros16 _) | (with_reducible exact sl_new1 _ _ _) | (with_reducible first | apply Sl.upE | apply Sl.upA | apply Sl.upD)))); (case hq94 => (repeat' (first | with_reducible assumption | (refine bsc2 ?_ ?_ ?_ ?_ _; (· (repeat' (first | with_reducible assumption | (with_reducible exact zeros16 _) | (with_reducible exact sl_new1 _ _ _) | (with_reducible first | apply Sl.upE | apply Sl.upA | apply Sl.upD)))); (· omega); (· (repeat' (first | with_reducible assumption | (with_reducible exact zeros16 _) | (with_reducible exact sl_new1 _ _ _) | (with_reducible first | apply Sl.upE | apply Sl.upA | apply Sl.upD)))); (· omega)) | (with_reducible first | apply Bsc.upE | apply Bsc.upA | apply Bsc.upD)))); rintro e w1 ⟨rfl, hxq⟩; obtain ⟨xq, rfl⟩ := hxq.out; clear hxq) | fail)
    go_ret2
    exact read2_err _ _ _ (by repeat (first | (with_reducible first | exact Ext.refl _ | assumption | apply Ext.alloc | apply Ext.ext | apply Ext.drew | refine Ext.setCell ?_ ?_ _) | (focus (simp [go_sem]; done))))
end Go.Proofs.YtbfgeokngekdmaaGreat

/- Layer 6 of the document: check, counter, Tag. -/
namespace Go.Aes
def checkR (ky : List UInt8) (A : List (List UInt8)) (p : Int) : Int := if checkA ky A ≠ 0 then checkA ky A else if 65519 < p then 2 else 0
theorem checkR_nat (ky : List UInt8) (A : List (List UInt8)) (k : Nat) : checkR ky A k = if checkA ky A ≠ 0 then checkA ky A else if 65519 < k then 2 else 0 := by
  unfold checkR
  by_cases h : checkA ky A ≠ 0
  · rw [if_pos h, if_pos h]
  · rw [if_neg h, if_neg h]
    by_cases h2 : 65519 < k
    · rw [if_pos (by omega), if_pos h2]
    · rw [if_neg (by omega), if_neg h2]
theorem tagE_err {ky : List UInt8} {A : List (List UInt8)} {p : List UInt8} (h : ¬ (checkA ky A = 0 ∧ p.length ≤ 65519)) : tagE ky A p = ([], checkR ky A p.length) ∧ checkR ky A p.length ≠ 0 := by
  rw [checkR_nat]
  unfold tagE
  by_cases h1 : checkA ky A ≠ 0
  · rw [if_pos h1, if_pos h1]; exact ⟨rfl, h1⟩
  · have h2 : 65519 < p.length := by
      rcases Nat.lt_or_ge 65519 p.length with h3 | h3
      · exact h3
      · exact absurd ⟨by simpa using h1, h3⟩ h
    rw [if_neg h1, if_neg h1, if_pos h2, if_pos h2]; exact ⟨rfl, by decide⟩
end Go.Aes
namespace Go.Proofs.YtbfgeokngekdmaaGreat
open Go.RowKit Go.Sec Go.Oct Go.Aes BigFrame

set_option maxRecDepth 100000 in
set_option maxHeartbeats 4000000 in
theorem rcheck_any (a b : Option Addr) (n c m d : Nat) (ky : List UInt8) (A : List (List UInt8)) (p : Int) (w : World) (hk : Sl w a n ky) (hA : Bsc w b m A) (hm : m ≤ 1000000) :
    Calls Tryz.prog 47 #[.slice a n c, .slice b m d, .int .i64 p] w fun e w' => e = .returned (.int .i64 (checkR ky A p)) ∧ Ext w w' := by
  have hkl := hk.len
  have hAl := hA.len
  by_cases h1 : n = 32
  · by_cases h2 : 16 < m
    · have e := Lib.hid (show checkR ky A p = 8 by
        have : checkA ky A = 8 := by unfold checkA; rw [if_neg (by omega), if_pos (by omega)]
        unfold checkR; rw [this]; rfl)
      have hI : ((n : Int) != 32) = false := by rw [bne_eq_false_iff_eq]; omega
      have hI2 : (16 : Int) < (m : Int) := by omega
      clear hkl h1
      go_enter Tryz.func47, Tryz.ntmps47
      go_wp2_with fail
      go_ret
      exact ⟨by rw [e.out]; rfl, Ext.refl _⟩
    · have e := Lib.hid (show checkA ky A = if longA A then 2 else 0 by unfold checkA; rw [if_neg (by omega), if_neg (by omega)])
      have hI : ((n : Int) != 32) = false := by rw [bne_eq_false_iff_eq]; omega
      have hI2 : ¬ (16 : Int) < (m : Int) := by omega
      clear hkl h1
      go_enter Tryz.func47, Tryz.ntmps47
      go_wp2_with fail
      go_loopw [7] (fun v7 wr => ∃ i : Nat, i ≤ m ∧ v7 = .int .i64 i ∧ Hid (longA (A.take i) = false) ∧ Ext w wr) (fun v7 _ => m - (intOf v7).toNat)
      case atStart => exact ⟨0, by omega, rfl, Lib.hid rfl, Ext.refl _⟩
      case round =>
        obtain ⟨i, hi, rfl, hm', hx⟩ := hrel
        obtain ⟨x, rfl⟩ := hx.out
        by_cases hlt : i < m
        · obtain ⟨b0, o0, a', n', c', rfl, hb0, hcell, hc', hS⟩ := (hA.ext hx).at i hlt
          have i0 : (0 : Int) ≤ (i : Int) := by omega
          have i1 : (i : Int) < (m : Int) := by omega
          have hsu := Lib.hid (show longA (A.take (i + 1)) = decide (65519 < n') by
            rw [List.take_succ_eq_append_getElem (by omega), ← hS.len]
            unfold longA
            rw [List.any_append]
            have := hm'.out
            unfold longA at this
            rw [this]; simp)
          have htr := Lib.hid (show longA (A.take (i + 1)) = true → longA A = true from fun h => by
            unfold longA at h ⊢
            obtain ⟨x, hx, hp⟩ := List.any_eq_true.1 h
            exact List.any_eq_true.2 ⟨x, List.mem_of_mem_take hx, hp⟩)
          by_cases hn' : 65519 < n'
          · have hI3 : (65519 : Int) < (n' : Int) := by omega
            have hm2 := Lib.hid (show checkR ky A p = 2 by
              have : checkA ky A = 2 := by rw [e.out, htr.out (by rw [hsu.out]; simpa using hn')]; rfl
              unfold checkR; rw [this]; rfl)
            go_wp2_with fail
            go_ret
            exact ⟨by rw [hm2.out]; rfl, (by repeat (first | (with_reducible first | exact Ext.refl _ | assumption | apply Ext.alloc | apply Ext.ext | apply Ext.drew | refine Ext.setCell ?_ ?_ _) | (focus (simp [go_sem]; done))))⟩
          · have hI3 : ¬ (65519 : Int) < (n' : Int) := by omega
            have hm2 := Lib.hid (show longA (A.take (i + 1)) = false by rw [hsu.out]; simpa using hn')
            go_wp2_with fail
            go_roundw
            case rel => exact ⟨i + 1, by omega, by go_num, hm2, (by repeat (first | (with_reducible first | exact Ext.refl _ | assumption | apply Ext.alloc | apply Ext.ext | apply Ext.drew | refine Ext.setCell ?_ ?_ _) | (focus (simp [go_sem]; done))))⟩
            case measure => simp [intOf]; omega
        · obtain rfl : i = m := by omega
          have hlo := Lib.hid (show longA A = false by have := hm'.out; rwa [List.take_of_length_le (by omega)] at this)
          have e2 := Lib.hid (show checkR ky A p = if 65519 < p then 2 else 0 by
            have : checkA ky A = 0 := by rw [e.out, hlo.out]; rfl
            unfold checkR; rw [this]; rfl)
          by_cases hp : 65519 < p
          · go_wp2_with fail
            go_ret
            exact ⟨by rw [e2.out, if_pos hp]; rfl, (by repeat (first | (with_reducible first | exact Ext.refl _ | assumption | apply Ext.alloc | apply Ext.ext | apply Ext.drew | refine Ext.setCell ?_ ?_ _) | (focus (simp [go_sem]; done))))⟩
          · go_wp2_with fail
            go_ret
            exact ⟨by rw [e2.out, if_neg (by omega)]; rfl, (by repeat (first | (with_reducible first | exact Ext.refl _ | assumption | apply Ext.alloc | apply Ext.ext | apply Ext.drew | refine Ext.setCell ?_ ?_ _) | (focus (simp [go_sem]; done))))⟩
  · have e := Lib.hid (show checkR ky A p = 5 by
      have : checkA ky A = 5 := by unfold checkA; rw [if_pos (by omega)]
      unfold checkR; rw [this]; rfl)
    have hI := ne32 h1
    clear hkl h1
    go_enter Tryz.func47, Tryz.ntmps47
    go_wp2_with fail
    go_ret
    exact ⟨by rw [e.out]; rfl, Ext.refl _⟩

set_option maxRecDepth 100000 in
set_option maxHeartbeats 4000000 in
theorem counter_any (a : Option Addr) (c : Nat) (t : List UInt8) (w : World) (h : Sl w a 16 t) :
    Calls Tryz.prog 49 #[.slice a 16 c] w (Fresh 16 (ctrOf t) w) := by
  have htl := h.len
  have hC := Lib.hid (show ctrOf t = (t.set 8 (at' t 8 &&& 127)).set 12 (at' t 12 &&& 127) from rfl)
  go_enter Tryz.func49, Tryz.ntmps49
  go_wp2_with fail; (with_reducible refine (join_any _ _ _ _ _ (bss1 h _) (by omega) 16 (by simp [joinL1, htl]) (by omega)).mono ?_); rintro e w1 ⟨a1, c1, rfl, hO1, hx1⟩
  rw [joinL1] at hO1
  have hO1 := hO1.mono (base' := w.heap.size) (by simp)
  have hx1 : Ext w w1 := Ext.trans (Ext.of_alloc _ _) hx1
  obtain ⟨g, rfl, hg, hgb, hcell8, hfr8, _⟩ := hO1.at 8 (by omega)
  obtain ⟨_, e1, _, _, hcell12, hfr12, _⟩ := hO1.at 12 (by omega)
  injection e1 with e1
  injection e1 with e1 _
  subst e1
  have hle := hO1.le
  have hO2 := hO1.put 8 (by omega) (at' t 8 &&& 127)
  have hO3 := hO2.put 12 (by omega) (at' t 12 &&& 127)
  rw [← hC.out] at hO3
  have hx3 : Ext w ((w1.setCell ⟨g, 8, none⟩ (.int .u8 (n8 (at' t 8 &&& 127)))).setCell ⟨g, 12, none⟩ (.int .u8 (n8 (at' t 12 &&& 127)))) := Ext.setCell (Ext.setCell hx1 hg _) hg _
  rw [show t.getD 8 0 = at' t 8 from rfl] at hcell8
  rw [show t.getD 12 0 = at' t 12 from rfl] at hcell12
  clear hO1 hO2
  go_wp2_with fail
  go_region
  go_wp2
  go_ret
  exact ⟨_, _, rfl, hO3.ext (Ext.drew (Ext.refl _)), hx3.drew⟩

set_option maxRecDepth 100000 in
set_option maxHeartbeats 4000000 in
theorem rtag_any (a b c : Option Addr) (n ca m cb k cc : Nat) (ky : List UInt8) (A : List (List UInt8)) (p : List UInt8) (w : World) (hk : Sl w a n ky) (hca : n ≤ ca) (hA : Bsc w b m A) (hm : m ≤ 1000000) (hp : Sl w c k p) (hkc : k ≤ cc) :
    Calls Tryz.prog 50 #[.slice a n ca, .slice b m cb, .slice c k cc] w (Read2 (tagE ky A p).1.length (tagE ky A p).1 (.int .i64 (tagE ky A p).2) w) := by
  have hc := fun w h1 h2 => rcheck_any a b n ca m cb ky A (k : Int) w h1 h2 hm
  have hpl := hp.len
  have hcr := checkR_nat ky A k
  by_cases h0 : checkA ky A = 0 ∧ k ≤ 65519
  · obtain ⟨h0, hl⟩ := h0
    have h00 : checkR ky A k = 0 := by rw [hcr, if_neg (by rw [h0]; simp), if_neg (by omega)]
    rw [h00] at hc
    obtain ⟨h32, h16, hmx⟩ := checkA_ok h0
    rw [hk.len] at h32
    rw [hA.len] at h16
    subst h32
    rw [tagE_ok h0 (by omega)]
    show Calls _ _ _ _ (Read2 (s2v _ _).length _ _ _)
    rw [s2v_length]
    have hmax : ∀ x ∈ A ++ [p], x.length ≤ 65535 := by
      intro x hx
      rcases List.mem_append.1 hx with h | h
      · have := hmx x h; omega
      · simp only [List.mem_singleton] at h; subst h; omega
    have q : (16 : Int) ≤ (ca : Int) := by omega
    clear h0 h00 hcr hmx hpl
    go_enter Tryz.func50, Tryz.ntmps50
    go_wp2_with (first | (go_at_call 47; (with_reducible refine (hc ?_ ?hq106 ?hq107).mono ?_); (case hq106 => (repeat' (first | with_reducible assumption | (with_reducible exact zeros16 _) | (with_reducible exact sl_new1 _ _ _) | (with_reducible first | apply Sl.upE | apply Sl.upA | apply Sl.upD)))); (case hq107 => (repeat' (first | with_reducible assumption | (refine bsc2 ?_ ?_ ?_ ?_ _; (· (repeat' (first | with_reducible assumption | (with_reducible exact zeros16 _) | (with_reducible exact sl_new1 _ _ _) | (with_reducible first | apply Sl.upE | apply Sl.upA | apply Sl.upD)))); (· omega); (· (repeat' (first | with_reducible assumption | (with_reducible exact zeros16 _) | (with_reducible exact sl_new1 _ _ _) | (with_reducible first | apply Sl.upE | apply Sl.upA | apply Sl.upD)))); (· omega)) | (with_reducible first | apply Bsc.upE | apply Bsc.upA | apply Bsc.upD)))); rintro e w1 ⟨rfl, hxq⟩; obtain ⟨xq, rfl⟩ := hxq.out; clear hxq) | fail)
    have hxW : Ext w (w.ext xq) := (by repeat (first | (with_reducible first | exact Ext.refl _ | assumption | apply Ext.alloc | apply Ext.ext | apply Ext.drew | refine Ext.setCell ?_ ?_ _) | (focus (simp [go_sem]; done))))
    generalize w.ext xq = W at *
    have hkW := (hk.ext hxW).take 16 (by omega)
    have hRB := (hA.ext hxW).rdB
    have hpW := hp.ext hxW
    have hSE : ∀ w', Ext (W) w' → (Ext (W)) w' := (fun _ h => h); have hExt0 : Ext (W) (W).drew := Ext.drew (Ext.refl _); refine wp_region_held_drew (S := Ext (W)) (by kernel_rfl) (hSE _ hExt0) (fun hHeld => ?_)
    refine wpAnyH_take (i := 0) (v := ?v95) rfl (by kernel_rfl) (by kernel_rfl) (by kernel_rfl) (fun _ _ _ h => h) (Or.inl ⟨by rfl, ?hy95⟩) hHeld ?_; (case hy95 => (intro w' hx; simp [go_sem, execOp, *]; (try simp (disch := omega) only [Go.IntWalk.i64_in, Go.IntWalk.rem_in, Go.IntWalk.wrap64_in]); rfl)); (try simp only [List.getElem_toArray, List.getElem_cons_succ, List.getElem_cons_zero, Act.put, List.setIfInBounds_toArray, List.set_cons_succ, List.set_cons_zero])
    refine wpAnyH_take (i := 1) (v := ?v96) rfl (by kernel_rfl) (by kernel_rfl) (by kernel_rfl) (fun _ _ _ h => h) (Or.inl ⟨by rfl, ?hy96⟩) hHeld ?_; (case hy96 => (intro w' hx; simp [go_sem, execOp, *]; (try simp (disch := omega) only [Go.IntWalk.i64_in, Go.IntWalk.rem_in, Go.IntWalk.wrap64_in]); rfl)); (try simp only [List.getElem_toArray, List.getElem_cons_succ, List.getElem_cons_zero, Act.put, List.setIfInBounds_toArray, List.set_cons_succ, List.set_cons_zero])
    refine wpAnyH_take (i := 3) (v := ?v97) rfl (by kernel_rfl) (by kernel_rfl) (by kernel_rfl) (fun _ _ _ h => h) (Or.inl ⟨by rfl, ?hy97⟩) hHeld ?_; (case hy97 => (intro w' hx; simp [go_sem, execOp, *]; (try simp (disch := omega) only [Go.IntWalk.i64_in, Go.IntWalk.rem_in, Go.IntWalk.wrap64_in]); rfl)); (try simp only [List.getElem_toArray, List.getElem_cons_succ, List.getElem_cons_zero, Act.put, List.setIfInBounds_toArray, List.set_cons_succ, List.set_cons_zero])
    refine wpAnyH_take (i := 5) (v := ?v98) rfl (by kernel_rfl) (by kernel_rfl) (by kernel_rfl) (fun _ _ _ h => h) (Or.inl ⟨by rfl, ?hy98⟩) hHeld ?_; (case hy98 => (intro w' hx; simp [go_sem, execOp, *]; (try simp (disch := omega) only [Go.IntWalk.i64_in, Go.IntWalk.rem_in, Go.IntWalk.wrap64_in]); rfl)); (try simp only [List.getElem_toArray, List.getElem_cons_succ, List.getElem_cons_zero, Act.put, List.setIfInBounds_toArray, List.set_cons_succ, List.set_cons_zero])
    refine R5.any_late2 7 9 [[], [0], [], [], [2, 3], [], [5], [2, 3, 4, 5, 6], [0, 1, 2, 3, 4, 5, 6, 7], [0, 1, 2, 3, 4, 5, 6, 7, 8], [0, 1, 2, 3, 4, 5, 6, 7, 8], [0, 1, 2, 3, 4, 5, 6, 7, 8, 9, 10], [0, 1, 2, 3, 4, 5, 6, 7, 8, 9, 10, 11]] [0, 1, 3, 5] #[true, true, true, true, true, true, true, true, true, false, false, false, false] 4 hExt0 hSE (by kernel_rfl) (by kernel_rfl) (by kernel_rfl) (by kernel_rfl) (by kernel_rfl) (by kernel_rfl) ?_; simp only [List.take_succ_cons, List.take_zero, List.drop_succ_cons, List.drop_zero, List.take_nil, List.drop_nil, Nat.reduceSub]
    refine R5.VD_taken rfl ?_
    refine R5.VD_taken rfl ?_
    (refine R5.VD_vag rfl (fun p => .slice (p 0).1 0 0) (fun p w'' => ∃ g, (p 0).1 = some ⟨g, 0, none⟩ ∧ OwnB w'' W.heap.size (some ⟨g, 0, none⟩) 0 0 []) (fun p w w' h hx => (let ⟨g, h1, h2⟩ := h; ⟨g, h1, h2.ext hx⟩)) (fun us w' hx hf => ⟨rfl, ?_⟩) ?_; (unfold gives; simp [go_sem, execOp]; exact ⟨fun _ => (some ⟨w'.heap.size, 0, none⟩, 0), rfl, Ext.of_alloc _ _, _, rfl, (OwnB.empty _).mono0 hx.size⟩))
    refine R5.VD_taken rfl ?_
    (refine R5.VD_vag rfl (fun p => .slice (p 0).1 m (p 0).2) (fun p w'' => OwnB w'' W.heap.size (p 0).1 m (p 0).2 A) (fun p w w' h hx => h.ext hx) (fun us w' hx hf => ⟨rfl, ?_⟩) ?_; (obtain ⟨g, hg, hE⟩ := (hf _ (List.mem_append_right _ (List.mem_singleton_self _)) rfl); obtain ⟨sa, sc, w'', hrun, hO, hx'⟩ := R5.append_empty_bs V8 w' 59 W.heap.size g hE _ m cb A (hRB.ext hx) (by omega) hx.size; exact R5.gives_append rfl (by show Value.slice (us 2 0).1 0 0 = _; rw [hg]) rfl hrun ⟨fun _ => (sa, sc), rfl, hx', hO⟩))
    refine R5.VD_taken rfl ?_
    (refine R5.VD_vag rfl (fun p => .slice (p 0).1 1 1) (fun p w'' => Rd w'' (p 0).1 [.slice c k cc]) (fun p w w' h hx => h.ext hx) (fun us w' hx hf => ⟨rfl, ?_⟩) ?_; (unfold gives; simp [go_sem, execOp]; exact ⟨fun _ => (some ⟨w'.heap.size, 0, none⟩, 0), rfl, Ext.of_alloc _ _, (Blk.new _ _ _).rd⟩))
    (refine R5.VD_nil ?_; intro us w' hx hf; obtain ⟨x, rfl⟩ := hx.out; (try simp only [Act.put, List.setIfInBounds_toArray, List.set_cons_succ, List.set_cons_zero, wpList_none]); (try simp only [List.mem_cons, List.not_mem_nil, or_false, forall_eq_or_imp, forall_eq, List.nil_append, List.cons_append, List.mem_append, false_or, true_and, and_true] at hf); (try simp only [Nat.reduceAdd, Nat.zero_add] at hf); (try simp only [Nat.reduceAdd, Nat.zero_add]))
    obtain ⟨-, hO1, hR2⟩ := hf
    (refine R5.chain_append_bs hSE V8 rfl rfl _ _ rfl (W.heap.size) _ m _ (A) rfl _ 1 1 ([p]) rfl (hO1) (RdB.one hR2 (hpW.ext hx) hkc (hpW.inB _)) (by omega) (hx.size) (Nat.le_refl _) (hx) ?_; intro sa2 sc2 w2 hOa hg2 hB2 hx2)
    have hBs := hOa.bsc
    have hle := hOa.le
    have hk2 := hkW.ext hx2
    (refine R5.chain_cons rfl rfl ?_; unfold gives; simp [go_sem, execOp]; (with_reducible refine (rvector_any ?_ ?_ ?_ ?_ ?_ (ky.take 16) (A ++ [p]) ?_ ?hq103 ?hq104 ?hq105 hmax).mono ?_); (case hq103 => (repeat' (first | with_reducible assumption | (with_reducible exact zeros16 _) | (with_reducible exact sl_new1 _ _ _) | (with_reducible first | apply Sl.upE | apply Sl.upA | apply Sl.upD)))); (case hq104 => (repeat' (first | with_reducible assumption | (refine bsc2 ?_ ?_ ?_ ?_ _; (· (repeat' (first | with_reducible assumption | (with_reducible exact zeros16 _) | (with_reducible exact sl_new1 _ _ _) | (with_reducible first | apply Sl.upE | apply Sl.upA | apply Sl.upD)))); (· omega); (· (repeat' (first | with_reducible assumption | (with_reducible exact zeros16 _) | (with_reducible exact sl_new1 _ _ _) | (with_reducible first | apply Sl.upE | apply Sl.upA | apply Sl.upD)))); (· omega)) | (with_reducible first | apply Bsc.upE | apply Bsc.upA | apply Bsc.upD)))); (case hq105 => omega); rintro e _ ⟨_, _, rfl, hS, hc, hx⟩; obtain ⟨_, rfl⟩ := hx.out; clear hx; refine ⟨_, rfl, hSE _ (by repeat (first | (with_reducible first | exact Ext.refl _ | assumption | apply Ext.alloc | apply Ext.ext | apply Ext.drew | refine Ext.setCell ?_ ?_ _) | (focus (simp [go_sem]; done)))), ?_⟩; (try simp only [List.getElem_toArray, List.getElem_cons_succ, List.getElem_cons_zero, Act.put, List.setIfInBounds_toArray, List.set_cons_succ, List.set_cons_zero]))
    (refine R5.chain_nil ?_)
    refine wpAnyH_take (i := 9) (v := ?v99) rfl (by kernel_rfl) (by kernel_rfl) (by kernel_rfl) (fun _ _ _ h => h) (Or.inl ⟨by rfl, ?hy99⟩) (hSE _ (by repeat (first | (with_reducible first | exact Ext.refl _ | assumption | apply Ext.alloc | apply Ext.ext | apply Ext.drew | refine Ext.setCell ?_ ?_ _) | (focus (simp [go_sem]; done))))) ?_; (case hy99 => (intro w' hx; simp [go_sem, execOp, *]; (try simp (disch := omega) only [Go.IntWalk.i64_in, Go.IntWalk.rem_in, Go.IntWalk.wrap64_in]); rfl)); (try simp only [List.getElem_toArray, List.getElem_cons_succ, List.getElem_cons_zero, Act.put, List.setIfInBounds_toArray, List.set_cons_succ, List.set_cons_zero])
    refine wpAnyH_take (i := 10) (v := ?v100) rfl (by kernel_rfl) (by kernel_rfl) (by kernel_rfl) (fun _ _ _ h => h) (Or.inl ⟨by rfl, ?hy100⟩) (hSE _ (by repeat (first | (with_reducible first | exact Ext.refl _ | assumption | apply Ext.alloc | apply Ext.ext | apply Ext.drew | refine Ext.setCell ?_ ?_ _) | (focus (simp [go_sem]; done))))) ?_; (case hy100 => (intro w' hx; simp [go_sem, execOp, *]; (try simp (disch := omega) only [Go.IntWalk.i64_in, Go.IntWalk.rem_in, Go.IntWalk.wrap64_in]); rfl)); (try simp only [List.getElem_toArray, List.getElem_cons_succ, List.getElem_cons_zero, Act.put, List.setIfInBounds_toArray, List.set_cons_succ, List.set_cons_zero])
    refine wpAnyH_take (i := 11) (v := ?v101) rfl (by kernel_rfl) (by kernel_rfl) (by kernel_rfl) (fun _ _ _ h => h) (Or.inl ⟨by rfl, ?hy101⟩) (hSE _ (by repeat (first | (with_reducible first | exact Ext.refl _ | assumption | apply Ext.alloc | apply Ext.ext | apply Ext.drew | refine Ext.setCell ?_ ?_ _) | (focus (simp [go_sem]; done))))) ?_; (case hy101 => (intro w' hx; simp [go_sem, execOp, *]; (try simp (disch := omega) only [Go.IntWalk.i64_in, Go.IntWalk.rem_in, Go.IntWalk.wrap64_in]); rfl)); (try simp only [List.getElem_toArray, List.getElem_cons_succ, List.getElem_cons_zero, Act.put, List.setIfInBounds_toArray, List.set_cons_succ, List.set_cons_zero])
    refine wpAnyH_take (i := 12) (v := ?v102) rfl (by kernel_rfl) (by kernel_rfl) (by kernel_rfl) (fun _ _ _ h => h) (Or.inl ⟨by rfl, ?hy102⟩) (hSE _ (by repeat (first | (with_reducible first | exact Ext.refl _ | assumption | apply Ext.alloc | apply Ext.ext | apply Ext.drew | refine Ext.setCell ?_ ?_ _) | (focus (simp [go_sem]; done))))) ?_; (case hy102 => (intro w' hx; simp [go_sem, execOp, *]; (try simp (disch := omega) only [Go.IntWalk.i64_in, Go.IntWalk.rem_in, Go.IntWalk.wrap64_in]); rfl)); (try simp only [List.getElem_toArray, List.getElem_cons_succ, List.getElem_cons_zero, Act.put, List.setIfInBounds_toArray, List.set_cons_succ, List.set_cons_zero])
    refine wpAnyH_done (by kernel_rfl) ?_ _
    go_wp2
    go_ret2
    exact ⟨_, _, rfl, hS, hc, hxW.trans (by repeat (first | (with_reducible first | exact Ext.refl _ | assumption | apply Ext.alloc | apply Ext.ext | apply Ext.drew | refine Ext.setCell ?_ ?_ _) | (focus (simp [go_sem]; done))))⟩
  · obtain ⟨e, hne⟩ := tagE_err (p := p) (by rw [hpl]; exact h0)
    rw [hpl] at e hne
    rw [e]
    have hI := ne0 hne
    clear hne
    generalize checkR ky A k = v at *
    clear e h0 hcr
    go_enter Tryz.func50, Tryz.ntmps50
    go_wp2_with (first | (go_at_call 47; (with_reducible refine (hc ?_ ?hq108 ?hq109).mono ?_); (case hq108 => (repeat' (first | with_reducible assumption | (with_reducible exact zeros16 _) | (with_reducible exact sl_new1 _ _ _) | (with_reducible first | apply Sl.upE | apply Sl.upA | apply Sl.upD)))); (case hq109 => (repeat' (first | with_reducible assumption | (refine bsc2 ?_ ?_ ?_ ?_ _; (· (repeat' (first | with_reducible assumption | (with_reducible exact zeros16 _) | (with_reducible exact sl_new1 _ _ _) | (with_reducible first | apply Sl.upE | apply Sl.upA | apply Sl.upD)))); (· omega); (· (repeat' (first | with_reducible assumption | (with_reducible exact zeros16 _) | (with_reducible exact sl_new1 _ _ _) | (with_reducible first | apply Sl.upE | apply Sl.upA | apply Sl.upD)))); (· omega)) | (with_reducible first | apply Bsc.upE | apply Bsc.upA | apply Bsc.upD)))); rintro e w1 ⟨rfl, hxq⟩; obtain ⟨xq, rfl⟩ := hxq.out; clear hxq) | fail)
    go_ret2
    exact read2_err _ _ _ (by repeat (first | (with_reducible first | exact Ext.refl _ | assumption | apply Ext.alloc | apply Ext.ext | apply Ext.drew | refine Ext.setCell ?_ ?_ _) | (focus (simp [go_sem]; done))))
end Go.Proofs.YtbfgeokngekdmaaGreat

/- Layer 6 of the document: Seal, Open. -/
namespace Go.Proofs.YtbfgeokngekdmaaGreat
open Go.RowKit Go.Sec Go.Oct Go.Aes BigFrame

theorem sl_from {w : World} {b0 o0 n ca i : Nat} {l : List UInt8} (h : Sl w (some ⟨b0, o0, none⟩) n l) (hca : n ≤ ca) (hi : i < n) : Sl w (some ⟨b0, o0 + i, none⟩) (n - i) (l.drop i) := by
  have := h.drop ca i hca
  unfold sAdr at this
  rw [if_neg (by omega)] at this
  simpa [addr_add] using this

set_option maxRecDepth 100000 in
set_option maxHeartbeats 4000000 in
theorem rseal_any (a b c : Option Addr) (n ca m cb k cc : Nat) (ky : List UInt8) (A : List (List UInt8)) (p : List UInt8) (w : World) (hk : Sl w a n ky) (hca : n ≤ ca) (hA : Bsc w b m A) (hm : m ≤ 1000000) (hp : Sl w c k p) (hkc : k ≤ cc) :
    Calls Tryz.prog 37 #[.slice a n ca, .slice b m cb, .slice c k cc] w (Read2 (sealE ky A p).1.length (sealE ky A p).1 (.int .i64 (sealE ky A p).2) w) := by
  have ht := fun w h1 h3 h5 => rtag_any a b c n ca m cb k cc ky A p w h1 hca h3 hm h5 hkc
  by_cases h0 : (tagE ky A p).2 = 0
  · obtain ⟨h16, hck, hpl⟩ := tagE_len h0
    obtain ⟨h32, _, _⟩ := checkA_ok hck
    rw [hk.len] at h32
    rw [hp.len] at hpl
    subst h32
    have e := Lib.hid (show sealE ky A p = ((tagE ky A p).1 ++ stream (ky.drop 16) (ctrOf (tagE ky A p).1) p, 0) by unfold sealE; rw [if_neg (by simpa using h0)])
    rw [h0, h16] at ht
    have hsl := stream_length (ky.drop 16) (ctrOf (tagE ky A p).1) p
    rw [hp.len] at hsl
    obtain ⟨b0, o0, rfl, hb0, _⟩ := hk.at 0 (by omega)
    have hk2 := sl_from hk hca (i := 16) (by omega)
    have hst := fun a1 a2 c1 c2 w h1 h2 h3 h4 => rstream_any a1 a2 c c1 c2 cc k (ky.drop 16) (ctrOf (tagE ky A p).1) p w h1 h2 h3 h4 (by omega)
    have hct := fun a c w h => counter_any a c (tagE ky A p).1 w h
    generalize stream (ky.drop 16) (ctrOf (tagE ky A p).1) p = st at *
    generalize ctrOf (tagE ky A p).1 = ct at *
    generalize (tagE ky A p).1 = tg at *
    rw [e.out]
    have hll : (tg ++ st).length = 16 + k := by rw [List.length_append, h16, hsl]
    show Calls _ _ _ _ (Read2 (tg ++ st).length _ _ _)
    rw [hll]
    clear h0 hck
    have hj : joinL [tg, st] = tg ++ st := by simp [joinL]
    have hjl : (joinL [tg, st]).length = 16 + k := by rw [hj, hll]
    have HJ := Lib.hid hj
    have q : (16 : Int) ≤ (ca : Int) := by omega
    clear hj
    go_enter Tryz.func37, Tryz.ntmps37
    go_wp2_with fail
    refine (ht _ hk hA hp).mono ?_
    rintro e W ⟨a3, c3, rfl, hS3, hc3, hxW⟩
    have hkW := hk2.ext hxW
    have hpW := hp.ext hxW
    have q4 : ¬ ca = 16 := by omega
    go_wp2_with fail
    refine wp_region_vague 11 [[], [0], [], [2], [], [0, 1, 2, 3, 4], [0, 1, 2, 3, 4, 5], [0, 1, 2, 3, 4, 5, 6], [0, 1, 2, 3, 4, 5, 6], [0, 1, 2, 3, 4, 5, 6, 7], [0, 1, 2, 3, 4, 5, 6, 7, 8, 9]] (by kernel_rfl) (by kernel_rfl) (by kernel_rfl) (by kernel_rfl) ?_; simp only [List.take_succ_cons, List.take_zero, List.drop_succ_cons, List.drop_zero, List.take_nil, List.drop_nil]
    (repeat (apply VD_der; (case h => (intro us w' hx hf; obtain ⟨x, rfl⟩ := hx.out; refine ⟨rfl, ?_⟩; simp [go_sem, execOp, *]; (try simp (disch := omega) only [Go.IntWalk.i64_in, Go.IntWalk.rem_in, Go.IntWalk.wrap64_in]); rfl)); (try simp only [Act.put, List.setIfInBounds_toArray, List.set_cons_succ, List.set_cons_zero])))
    (refine VD_vag (fun p => .slice (p 0).1 (16) (p 0).2) (fun p w'' => Own w'' 0 (p 0).1 (16) (p 0).2 (ct)) (fun p w w' h hx => h.ext hx) (fun us w' hx hf => ⟨rfl, ?_⟩) ?_; (unfold gives; simp [go_sem, execOp]; exact vag_fresh (Nat.zero_le _) (hct _ _ _ (hS3.ext hx))))
    (repeat (apply VD_der; (case h => (intro us w' hx hf; obtain ⟨x, rfl⟩ := hx.out; refine ⟨rfl, ?_⟩; simp [go_sem, execOp, *]; (try simp (disch := omega) only [Go.IntWalk.i64_in, Go.IntWalk.rem_in, Go.IntWalk.wrap64_in]); rfl)); (try simp only [Act.put, List.setIfInBounds_toArray, List.set_cons_succ, List.set_cons_zero])))
    (refine VD_vag (fun p => .tuple #[.slice (p 0).1 (k) (p 0).2, .int .i64 0]) (fun p w'' => Sl w'' (p 0).1 (k) (st) ∧ (k) ≤ (p 0).2) (fun p w w' h hx => ⟨h.1.ext hx, h.2⟩) (fun us w' hx hf => ⟨rfl, ?_⟩) ?_; (unfold gives; simp [go_sem, execOp]; exact vag_read (hst _ _ _ _ _ (hkW.ext hx) (Own.sl (by exact (hf _ (List.mem_append_right _ (List.mem_singleton_self _)) rfl))) (Own.le (by exact (hf _ (List.mem_append_right _ (List.mem_singleton_self _)) rfl))).1 (hpW.ext hx))))
    (repeat (apply VD_der; (case h => (intro us w' hx hf; obtain ⟨x, rfl⟩ := hx.out; refine ⟨rfl, ?_⟩; simp [go_sem, execOp, *]; (try simp (disch := omega) only [Go.IntWalk.i64_in, Go.IntWalk.rem_in, Go.IntWalk.wrap64_in]); rfl)); (try simp only [Act.put, List.setIfInBounds_toArray, List.set_cons_succ, List.set_cons_zero])))
    (refine VD_nil ?_; intro us w' hx hf; obtain ⟨x, rfl⟩ := hx.out; (try simp only [Act.put, List.setIfInBounds_toArray, List.set_cons_succ, List.set_cons_zero, wpList_none]); (try simp only [List.mem_cons, List.not_mem_nil, or_false, forall_eq_or_imp, forall_eq, List.nil_append, List.cons_append, List.mem_append, false_or, true_and, and_true] at hf); (try simp only [Nat.reduceAdd, Nat.zero_add] at hf); (try simp only [Nat.reduceAdd, Nat.zero_add]))
    obtain ⟨-, hS4, hc4⟩ := hf
    go_wp2_with fail
    (with_reducible refine (join_any _ _ _ [tg, st] _ (bss2 ?h1 ?h2 _) (by omega) (16 + k) hjl (by omega)).mono ?_)
    case h1 => exact (by (repeat' (first | with_reducible assumption | (with_reducible exact zeros16 _) | (with_reducible exact sl_new1 _ _ _) | (with_reducible first | apply Sl.upE | apply Sl.upA | apply Sl.upD))))
    case h2 => exact (by (repeat' (first | with_reducible assumption | (with_reducible exact zeros16 _) | (with_reducible exact sl_new1 _ _ _) | (with_reducible first | apply Sl.upE | apply Sl.upA | apply Sl.upD))))
    rintro e _ ⟨_, _, rfl, hO, hx⟩
    obtain ⟨_, rfl⟩ := hx.out
    clear hx
    go_wp2
    rw [HJ.out] at hO
    go_ret2
    exact ⟨_, _, rfl, hO.sl, hO.le.1, hxW.trans (by repeat (first | (with_reducible first | exact Ext.refl _ | assumption | apply Ext.alloc | apply Ext.ext | apply Ext.drew | refine Ext.setCell ?_ ?_ _) | (focus (simp [go_sem]; done))))⟩
  · have e : sealE ky A p = ([], (tagE ky A p).2) := by unfold sealE; rw [if_pos h0]
    rw [e]
    have hI := ne0 h0
    generalize (tagE ky A p).2 = v at *
    generalize (tagE ky A p).1 = tg at *
    clear e h0
    go_enter Tryz.func37, Tryz.ntmps37
    go_wp2_with (first | (go_at_call 50; (with_reducible refine (ht ?_ ?hq110 ?hq111 ?hq112).mono ?_); (case hq110 => (repeat' (first | with_reducible assumption | (with_reducible exact zeros16 _) | (with_reducible exact sl_new1 _ _ _) | (with_reducible first | apply Sl.upE | apply Sl.upA | apply Sl.upD)))); (case hq111 => (repeat' (first | with_reducible assumption | (refine bsc2 ?_ ?_ ?_ ?_ _; (· (repeat' (first | with_reducible assumption | (with_reducible exact zeros16 _) | (with_reducible exact sl_new1 _ _ _) | (with_reducible first | apply Sl.upE | apply Sl.upA | apply Sl.upD)))); (· omega); (· (repeat' (first | with_reducible assumption | (with_reducible exact zeros16 _) | (with_reducible exact sl_new1 _ _ _) | (with_reducible first | apply Sl.upE | apply Sl.upA | apply Sl.upD)))); (· omega)) | (with_reducible first | apply Bsc.upE | apply Bsc.upA | apply Bsc.upD)))); (case hq112 => (repeat' (first | with_reducible assumption | (with_reducible exact zeros16 _) | (with_reducible exact sl_new1 _ _ _) | (with_reducible first | apply Sl.upE | apply Sl.upA | apply Sl.upD)))); rintro e _ ⟨_, _, rfl, hS, hc, hx⟩; obtain ⟨_, rfl⟩ := hx.out; clear hx) | fail)
    go_ret2
    exact read2_err _ _ _ (by repeat (first | (with_reducible first | exact Ext.refl _ | assumption | apply Ext.alloc | apply Ext.ext | apply Ext.drew | refine Ext.setCell ?_ ?_ _) | (focus (simp [go_sem]; done))))

set_option maxRecDepth 100000 in
set_option maxHeartbeats 4000000 in
theorem ropen_any (a b c : Option Addr) (n ca m cb k cc : Nat) (ky : List UInt8) (A : List (List UInt8)) (s : List UInt8) (w : World) (hk : Sl w a n ky) (hca : n ≤ ca) (hA : Bsc w b m A) (hm : m ≤ 1000000) (hs : Sl w c k s) (hkc : k ≤ cc) (hk1 : k ≤ 1000000) :
    Calls Tryz.prog 30 #[.slice a n ca, .slice b m cb, .slice c k cc] w (Read2 (openE ky A s).1.length (openE ky A s).1 (.int .i64 (openE ky A s).2) w) := by
  have hc := fun w h1 h2 => rcheck_any a b n ca m cb ky A ((k : Int) - 16) w h1 h2 hm
  have hsl := hs.len
  by_cases h0 : checkA ky A = 0 ∧ k ≤ 65535
  · obtain ⟨h0, hl⟩ := h0
    obtain ⟨h32, _, _⟩ := checkA_ok h0
    rw [hk.len] at h32
    subst h32
    have h00 : checkR ky A ((k : Int) - 16) = 0 := by unfold checkR; rw [if_neg (by rw [h0]; simp), if_neg (by omega)]
    rw [h00] at hc
    by_cases h16 : k < 16
    · have e : openE ky A s = ([], 1) := by unfold openE; rw [if_neg (by rw [h0]; simp), if_neg (by omega), if_pos (by omega)]
      rw [e]
      have hI : decide ((k : Int) < 16) = true := by simp; omega
      clear e h0 hsl h00
      go_enter Tryz.func30, Tryz.ntmps30
      go_wp2_with (first | (go_at_call 47; (with_reducible refine (hc ?_ ?hq121 ?hq122).mono ?_); (case hq121 => (repeat' (first | with_reducible assumption | (with_reducible exact zeros16 _) | (with_reducible exact sl_new1 _ _ _) | (with_reducible first | apply Sl.upE | apply Sl.upA | apply Sl.upD)))); (case hq122 => (repeat' (first | with_reducible assumption | (refine bsc2 ?_ ?_ ?_ ?_ _; (· (repeat' (first | with_reducible assumption | (with_reducible exact zeros16 _) | (with_reducible exact sl_new1 _ _ _) | (with_reducible first | apply Sl.upE | apply Sl.upA | apply Sl.upD)))); (· omega); (· (repeat' (first | with_reducible assumption | (with_reducible exact zeros16 _) | (with_reducible exact sl_new1 _ _ _) | (with_reducible first | apply Sl.upE | apply Sl.upA | apply Sl.upD)))); (· omega)) | (with_reducible first | apply Bsc.upE | apply Bsc.upA | apply Bsc.upD)))); rintro e w1 ⟨rfl, hxq⟩; obtain ⟨xq, rfl⟩ := hxq.out; clear hxq) | fail)
      go_ret2
      exact read2_err _ _ _ (by repeat (first | (with_reducible first | exact Ext.refl _ | assumption | apply Ext.alloc | apply Ext.ext | apply Ext.drew | refine Ext.setCell ?_ ?_ _) | (focus (simp [go_sem]; done))))
    · have e := Lib.hid (show openE ky A s = if (tagE ky A (plainOf ky s)).1 = s.take 16 then (plainOf ky s, 0) else ([], 6) by unfold openE; rw [if_neg (by rw [h0]; simp), if_neg (by omega), if_neg (by omega)])
      have htg : tagE ky A (plainOf ky s) = (s2v (ky.take 16) (A ++ [plainOf ky s]), 0) := tagE_ok h0 (by rw [plainOf_length]; omega)
      have ht := fun c cc w h1 h3 h5 h6 => rtag_any a b c 32 ca m cb (k - 16) cc ky A (plainOf ky s) w h1 hca h3 hm h5 h6
      have hpo : plainOf ky s = stream (ky.drop 16) (ctrOf (s.take 16)) (s.drop 16) := rfl
      obtain ⟨b0, o0, rfl, hb0, _⟩ := hk.at 0 (by omega)
      have hk2 := sl_from hk hca (i := 16) (by omega)
      have hs1 := hs.take 16 (by omega)
      have hs2 := hs.drop cc 16 hkc
      have hst := fun a1 a2 a3 c1 c2 c3 w h1 h2 h3 h4 => rstream_any a1 a2 a3 c1 c2 c3 (k - 16) (ky.drop 16) (ctrOf (s.take 16)) (s.drop 16) w h1 h2 h3 h4 (by omega)
      have hct := fun a c w h => counter_any a c (s.take 16) w h
      rw [← hpo] at hst
      rw [htg] at ht
      rw [htg] at e
      have hpl : (plainOf ky s).length = k - 16 := by rw [plainOf_length]; omega
      have htl := s2v_length (ky.take 16) (A ++ [plainOf ky s])
      simp only at ht e
      rw [htl] at ht
      generalize s2v (ky.take 16) (A ++ [plainOf ky s]) = tg at *
      generalize plainOf ky s = pl at *
      generalize ctrOf (s.take 16) = ct at *
      generalize s.take 16 = s0 at *
      generalize s.drop 16 = s1 at *
      clear htg h0 hpo hsl h00
      rw [e.out]
      have hI : decide ((k : Int) < 16) = false := by simp; omega
      have q : (16 : Int) ≤ (ca : Int) := by omega
      have q2 : (16 : Int) ≤ (k : Int) := by omega
      have q3 : (16 : Int) ≤ (cc : Int) := by omega
      have q4 : ¬ ca = 16 := by omega
      by_cases he : tg = s0
      · rw [if_pos he]
        show Calls _ _ _ _ (Read2 pl.length _ _ _)
        rw [hpl]
        have hb : (tg == s0) = true := by simpa using he
        clear he
        clear e
        go_enter Tryz.func30, Tryz.ntmps30
        go_wp2_with (first | (go_at_call 47; (with_reducible refine (hc ?_ ?hq123 ?hq124).mono ?_); (case hq123 => (repeat' (first | with_reducible assumption | (with_reducible exact zeros16 _) | (with_reducible exact sl_new1 _ _ _) | (with_reducible first | apply Sl.upE | apply Sl.upA | apply Sl.upD)))); (case hq124 => (repeat' (first | with_reducible assumption | (refine bsc2 ?_ ?_ ?_ ?_ _; (· (repeat' (first | with_reducible assumption | (with_reducible exact zeros16 _) | (with_reducible exact sl_new1 _ _ _) | (with_reducible first | apply Sl.upE | apply Sl.upA | apply Sl.upD)))); (· omega); (· (repeat' (first | with_reducible assumption | (with_reducible exact zeros16 _) | (with_reducible exact sl_new1 _ _ _) | (with_reducible first | apply Sl.upE | apply Sl.upA | apply Sl.upD)))); (· omega)) | (with_reducible first | apply Bsc.upE | apply Bsc.upA | apply Bsc.upD)))); rintro e w1 ⟨rfl, hxq⟩; obtain ⟨xq, rfl⟩ := hxq.out; clear hxq) | fail)
        have hxW : Ext w (w.ext xq) := (by repeat (first | (with_reducible first | exact Ext.refl _ | assumption | apply Ext.alloc | apply Ext.ext | apply Ext.drew | refine Ext.setCell ?_ ?_ _) | (focus (simp [go_sem]; done))))
        have hkW := hk2.ext hxW
        have hs1W := hs1.ext hxW
        have hs2W := hs2.ext hxW
        have hkk := hk.ext hxW
        have hAA := hA.ext hxW
        generalize w.ext xq = W at *
        refine wp_region_vague 13 [[], [0], [], [2], [2, 3], [], [5], [0, 1, 2, 3, 4, 5, 6], [0, 1, 2, 3, 4, 5, 6, 7], [0, 1, 2, 3, 4, 5, 6, 7, 8], [0, 1, 2, 3, 4, 5, 6, 7, 8], [0, 1, 2, 3, 4, 5, 6, 7, 8, 9], [0, 1, 2, 3, 4, 5, 6, 7, 8, 9, 10, 11]] (by kernel_rfl) (by kernel_rfl) (by kernel_rfl) (by kernel_rfl) ?_; simp only [List.take_succ_cons, List.take_zero, List.drop_succ_cons, List.drop_zero, List.take_nil, List.drop_nil]
        (repeat (apply VD_der; (case h => (intro us w' hx hf; obtain ⟨x, rfl⟩ := hx.out; refine ⟨rfl, ?_⟩; simp [go_sem, execOp, *]; (try simp (disch := omega) only [Go.IntWalk.i64_in, Go.IntWalk.rem_in, Go.IntWalk.wrap64_in]); rfl)); (try simp only [Act.put, List.setIfInBounds_toArray, List.set_cons_succ, List.set_cons_zero])))
        (refine VD_vag (fun p => .slice (p 0).1 (16) (p 0).2) (fun p w'' => Own w'' 0 (p 0).1 (16) (p 0).2 (ct)) (fun p w w' h hx => h.ext hx) (fun us w' hx hf => ⟨rfl, ?_⟩) ?_; (unfold gives; simp [go_sem, execOp]; exact vag_fresh (Nat.zero_le _) (hct _ _ _ (hs1W.ext hx))))
        (repeat (apply VD_der; (case h => (intro us w' hx hf; obtain ⟨x, rfl⟩ := hx.out; refine ⟨rfl, ?_⟩; simp [go_sem, execOp, *]; (try simp (disch := omega) only [Go.IntWalk.i64_in, Go.IntWalk.rem_in, Go.IntWalk.wrap64_in]); rfl)); (try simp only [Act.put, List.setIfInBounds_toArray, List.set_cons_succ, List.set_cons_zero])))
        (refine VD_vag (fun p => .tuple #[.slice (p 0).1 (k - 16) (p 0).2, .int .i64 0]) (fun p w'' => Sl w'' (p 0).1 (k - 16) pl ∧ k ≤ (p 0).2 + 16) (fun p w w' h hx => ⟨h.1.ext hx, h.2⟩) (fun us w' hx hf => ⟨rfl, ?_⟩) ?_; (unfold gives; simp [go_sem, execOp]; exact (hst _ _ _ _ _ _ _ (hkW.ext hx) (Own.sl (by exact (hf _ (List.mem_append_right _ (List.mem_singleton_self _)) rfl))) (Own.le (by exact (hf _ (List.mem_append_right _ (List.mem_singleton_self _)) rfl))).1 (hs2W.ext hx)).mono fun _ _ ⟨a, c, he, hO, hc, hx⟩ => ⟨_, he, fun _ => (a, c), rfl, hx, hO, by show k ≤ c + 16; omega⟩))
        (repeat (apply VD_der; (case h => (intro us w' hx hf; obtain ⟨x, rfl⟩ := hx.out; refine ⟨rfl, ?_⟩; simp [go_sem, execOp, *]; (try simp (disch := omega) only [Go.IntWalk.i64_in, Go.IntWalk.rem_in, Go.IntWalk.wrap64_in]); rfl)); (try simp only [Act.put, List.setIfInBounds_toArray, List.set_cons_succ, List.set_cons_zero])))
        (refine VD_nil ?_; intro us w' hx hf; obtain ⟨x, rfl⟩ := hx.out; (try simp only [Act.put, List.setIfInBounds_toArray, List.set_cons_succ, List.set_cons_zero, wpList_none]); (try simp only [List.mem_cons, List.not_mem_nil, or_false, forall_eq_or_imp, forall_eq, List.nil_append, List.cons_append, List.mem_append, false_or, true_and, and_true] at hf); (try simp only [Nat.reduceAdd, Nat.zero_add] at hf); (try simp only [Nat.reduceAdd, Nat.zero_add]))
        obtain ⟨-, hS4, hc4⟩ := hf
        go_wp2_with (first
          | (go_at_call 50; (with_reducible refine (ht ?_ ?_ ?_ ?hq113 ?hq114 ?hq115 ?hq116).mono ?_); (case hq113 => (repeat' (first | with_reducible assumption | (with_reducible exact zeros16 _) | (with_reducible exact sl_new1 _ _ _) | (with_reducible first | apply Sl.upE | apply Sl.upA | apply Sl.upD)))); (case hq114 => (repeat' (first | with_reducible assumption | (refine bsc2 ?_ ?_ ?_ ?_ _; (· (repeat' (first | with_reducible assumption | (with_reducible exact zeros16 _) | (with_reducible exact sl_new1 _ _ _) | (with_reducible first | apply Sl.upE | apply Sl.upA | apply Sl.upD)))); (· omega); (· (repeat' (first | with_reducible assumption | (with_reducible exact zeros16 _) | (with_reducible exact sl_new1 _ _ _) | (with_reducible first | apply Sl.upE | apply Sl.upA | apply Sl.upD)))); (· omega)) | (with_reducible first | apply Bsc.upE | apply Bsc.upA | apply Bsc.upD)))); (case hq115 => (repeat' (first | with_reducible assumption | (with_reducible exact zeros16 _) | (with_reducible exact sl_new1 _ _ _) | (with_reducible first | apply Sl.upE | apply Sl.upA | apply Sl.upD)))); (case hq116 => omega); rintro e _ ⟨_, _, rfl, hS, hc, hx⟩; obtain ⟨_, rfl⟩ := hx.out; clear hx)
          | (go_at_call 35; (with_reducible refine (same_any ?_ ?_ ?_ ?_ ?_ ?_ tg s0 ?_ ?hq125 ?hq126).mono ?_); (case hq125 => (repeat' (first | with_reducible assumption | (with_reducible exact zeros16 _) | (with_reducible exact sl_new1 _ _ _) | (with_reducible first | apply Sl.upE | apply Sl.upA | apply Sl.upD)))); (case hq126 => (repeat' (first | with_reducible assumption | (with_reducible exact zeros16 _) | (with_reducible exact sl_new1 _ _ _) | (with_reducible first | apply Sl.upE | apply Sl.upA | apply Sl.upD)))); rintro e w1 ⟨rfl, hxq⟩; obtain ⟨xq, rfl⟩ := hxq.out; clear hxq)
          | fail)
        go_ret2
        exact ⟨_, _, rfl, (by (repeat' (first | with_reducible assumption | (with_reducible exact zeros16 _) | (with_reducible exact sl_new1 _ _ _) | (with_reducible first | apply Sl.upE | apply Sl.upA | apply Sl.upD)))), by omega, hxW.trans (by repeat (first | (with_reducible first | exact Ext.refl _ | assumption | apply Ext.alloc | apply Ext.ext | apply Ext.drew | refine Ext.setCell ?_ ?_ _) | (focus (simp [go_sem]; done))))⟩
      · rw [if_neg he]
        have hb : (tg == s0) = false := by simpa using he
        clear he
        clear e
        go_enter Tryz.func30, Tryz.ntmps30
        go_wp2_with (first | (go_at_call 47; (with_reducible refine (hc ?_ ?hq127 ?hq128).mono ?_); (case hq127 => (repeat' (first | with_reducible assumption | (with_reducible exact zeros16 _) | (with_reducible exact sl_new1 _ _ _) | (with_reducible first | apply Sl.upE | apply Sl.upA | apply Sl.upD)))); (case hq128 => (repeat' (first | with_reducible assumption | (refine bsc2 ?_ ?_ ?_ ?_ _; (· (repeat' (first | with_reducible assumption | (with_reducible exact zeros16 _) | (with_reducible exact sl_new1 _ _ _) | (with_reducible first | apply Sl.upE | apply Sl.upA | apply Sl.upD)))); (· omega); (· (repeat' (first | with_reducible assumption | (with_reducible exact zeros16 _) | (with_reducible exact sl_new1 _ _ _) | (with_reducible first | apply Sl.upE | apply Sl.upA | apply Sl.upD)))); (· omega)) | (with_reducible first | apply Bsc.upE | apply Bsc.upA | apply Bsc.upD)))); rintro e w1 ⟨rfl, hxq⟩; obtain ⟨xq, rfl⟩ := hxq.out; clear hxq) | fail)
        have hxW : Ext w (w.ext xq) := (by repeat (first | (with_reducible first | exact Ext.refl _ | assumption | apply Ext.alloc | apply Ext.ext | apply Ext.drew | refine Ext.setCell ?_ ?_ _) | (focus (simp [go_sem]; done))))
        have hkW := hk2.ext hxW
        have hs1W := hs1.ext hxW
        have hs2W := hs2.ext hxW
        have hkk := hk.ext hxW
        have hAA := hA.ext hxW
        generalize w.ext xq = W at *
        refine wp_region_vague 13 [[], [0], [], [2], [2, 3], [], [5], [0, 1, 2, 3, 4, 5, 6], [0, 1, 2, 3, 4, 5, 6, 7], [0, 1, 2, 3, 4, 5, 6, 7, 8], [0, 1, 2, 3, 4, 5, 6, 7, 8], [0, 1, 2, 3, 4, 5, 6, 7, 8, 9], [0, 1, 2, 3, 4, 5, 6, 7, 8, 9, 10, 11]] (by kernel_rfl) (by kernel_rfl) (by kernel_rfl) (by kernel_rfl) ?_; simp only [List.take_succ_cons, List.take_zero, List.drop_succ_cons, List.drop_zero, List.take_nil, List.drop_nil]
        (repeat (apply VD_der; (case h => (intro us w' hx hf; obtain ⟨x, rfl⟩ := hx.out; refine ⟨rfl, ?_⟩; simp [go_sem, execOp, *]; (try simp (disch := omega) only [Go.IntWalk.i64_in, Go.IntWalk.rem_in, Go.IntWalk.wrap64_in]); rfl)); (try simp only [Act.put, List.setIfInBounds_toArray, List.set_cons_succ, List.set_cons_zero])))
        (refine VD_vag (fun p => .slice (p 0).1 (16) (p 0).2) (fun p w'' => Own w'' 0 (p 0).1 (16) (p 0).2 (ct)) (fun p w w' h hx => h.ext hx) (fun us w' hx hf => ⟨rfl, ?_⟩) ?_; (unfold gives; simp [go_sem, execOp]; exact vag_fresh (Nat.zero_le _) (hct _ _ _ (hs1W.ext hx))))
        (repeat (apply VD_der; (case h => (intro us w' hx hf; obtain ⟨x, rfl⟩ := hx.out; refine ⟨rfl, ?_⟩; simp [go_sem, execOp, *]; (try simp (disch := omega) only [Go.IntWalk.i64_in, Go.IntWalk.rem_in, Go.IntWalk.wrap64_in]); rfl)); (try simp only [Act.put, List.setIfInBounds_toArray, List.set_cons_succ, List.set_cons_zero])))
        (refine VD_vag (fun p => .tuple #[.slice (p 0).1 (k - 16) (p 0).2, .int .i64 0]) (fun p w'' => Sl w'' (p 0).1 (k - 16) pl ∧ k ≤ (p 0).2 + 16) (fun p w w' h hx => ⟨h.1.ext hx, h.2⟩) (fun us w' hx hf => ⟨rfl, ?_⟩) ?_; (unfold gives; simp [go_sem, execOp]; exact (hst _ _ _ _ _ _ _ (hkW.ext hx) (Own.sl (by exact (hf _ (List.mem_append_right _ (List.mem_singleton_self _)) rfl))) (Own.le (by exact (hf _ (List.mem_append_right _ (List.mem_singleton_self _)) rfl))).1 (hs2W.ext hx)).mono fun _ _ ⟨a, c, he, hO, hc, hx⟩ => ⟨_, he, fun _ => (a, c), rfl, hx, hO, by show k ≤ c + 16; omega⟩))
        (repeat (apply VD_der; (case h => (intro us w' hx hf; obtain ⟨x, rfl⟩ := hx.out; refine ⟨rfl, ?_⟩; simp [go_sem, execOp, *]; (try simp (disch := omega) only [Go.IntWalk.i64_in, Go.IntWalk.rem_in, Go.IntWalk.wrap64_in]); rfl)); (try simp only [Act.put, List.setIfInBounds_toArray, List.set_cons_succ, List.set_cons_zero])))
        (refine VD_nil ?_; intro us w' hx hf; obtain ⟨x, rfl⟩ := hx.out; (try simp only [Act.put, List.setIfInBounds_toArray, List.set_cons_succ, List.set_cons_zero, wpList_none]); (try simp only [List.mem_cons, List.not_mem_nil, or_false, forall_eq_or_imp, forall_eq, List.nil_append, List.cons_append, List.mem_append, false_or, true_and, and_true] at hf); (try simp only [Nat.reduceAdd, Nat.zero_add] at hf); (try simp only [Nat.reduceAdd, Nat.zero_add]))
        obtain ⟨-, hS4, hc4⟩ := hf
        go_wp2_with (first
          | (go_at_call 50; (with_reducible refine (ht ?_ ?_ ?_ ?hq117 ?hq118 ?hq119 ?hq120).mono ?_); (case hq117 => (repeat' (first | with_reducible assumption | (with_reducible exact zeros16 _) | (with_reducible exact sl_new1 _ _ _) | (with_reducible first | apply Sl.upE | apply Sl.upA | apply Sl.upD)))); (case hq118 => (repeat' (first | with_reducible assumption | (refine bsc2 ?_ ?_ ?_ ?_ _; (· (repeat' (first | with_reducible assumption | (with_reducible exact zeros16 _) | (with_reducible exact sl_new1 _ _ _) | (with_reducible first | apply Sl.upE | apply Sl.upA | apply Sl.upD)))); (· omega); (· (repeat' (first | with_reducible assumption | (with_reducible exact zeros16 _) | (with_reducible exact sl_new1 _ _ _) | (with_reducible first | apply Sl.upE | apply Sl.upA | apply Sl.upD)))); (· omega)) | (with_reducible first | apply Bsc.upE | apply Bsc.upA | apply Bsc.upD)))); (case hq119 => (repeat' (first | with_reducible assumption | (with_reducible exact zeros16 _) | (with_reducible exact sl_new1 _ _ _) | (with_reducible first | apply Sl.upE | apply Sl.upA | apply Sl.upD)))); (case hq120 => omega); rintro e _ ⟨_, _, rfl, hS, hc, hx⟩; obtain ⟨_, rfl⟩ := hx.out; clear hx)
          | (go_at_call 35; (with_reducible refine (same_any ?_ ?_ ?_ ?_ ?_ ?_ tg s0 ?_ ?hq129 ?hq130).mono ?_); (case hq129 => (repeat' (first | with_reducible assumption | (with_reducible exact zeros16 _) | (with_reducible exact sl_new1 _ _ _) | (with_reducible first | apply Sl.upE | apply Sl.upA | apply Sl.upD)))); (case hq130 => (repeat' (first | with_reducible assumption | (with_reducible exact zeros16 _) | (with_reducible exact sl_new1 _ _ _) | (with_reducible first | apply Sl.upE | apply Sl.upA | apply Sl.upD)))); rintro e w1 ⟨rfl, hxq⟩; obtain ⟨xq, rfl⟩ := hxq.out; clear hxq)
          | fail)
        go_ret2
        exact read2_err _ _ _ (hxW.trans (by repeat (first | (with_reducible first | exact Ext.refl _ | assumption | apply Ext.alloc | apply Ext.ext | apply Ext.drew | refine Ext.setCell ?_ ?_ _) | (focus (simp [go_sem]; done)))))
  · have e : openE ky A s = ([], checkR ky A ((k : Int) - 16)) ∧ checkR ky A ((k : Int) - 16) ≠ 0 := by
      unfold openE checkR
      by_cases h1 : checkA ky A ≠ 0
      · rw [if_pos h1, if_pos h1]; exact ⟨rfl, h1⟩
      · have h2 : 65535 < k := by
          rcases Nat.lt_or_ge 65535 k with h3 | h3
          · exact h3
          · exact absurd ⟨by simpa using h1, h3⟩ h0
        rw [if_neg h1, if_neg h1, if_pos (by omega), if_pos (by omega)]; exact ⟨rfl, by decide⟩
    obtain ⟨e, hne⟩ := e
    rw [e]
    have hI := ne0 hne
    generalize checkR ky A ((k : Int) - 16) = v at *
    clear e h0 hne
    go_enter Tryz.func30, Tryz.ntmps30
    go_wp2_with (first | (go_at_call 47; (with_reducible refine (hc ?_ ?hq131 ?hq132).mono ?_); (case hq131 => (repeat' (first | with_reducible assumption | (with_reducible exact zeros16 _) | (with_reducible exact sl_new1 _ _ _) | (with_reducible first | apply Sl.upE | apply Sl.upA | apply Sl.upD)))); (case hq132 => (repeat' (first | with_reducible assumption | (refine bsc2 ?_ ?_ ?_ ?_ _; (· (repeat' (first | with_reducible assumption | (with_reducible exact zeros16 _) | (with_reducible exact sl_new1 _ _ _) | (with_reducible first | apply Sl.upE | apply Sl.upA | apply Sl.upD)))); (· omega); (· (repeat' (first | with_reducible assumption | (with_reducible exact zeros16 _) | (with_reducible exact sl_new1 _ _ _) | (with_reducible first | apply Sl.upE | apply Sl.upA | apply Sl.upD)))); (· omega)) | (with_reducible first | apply Bsc.upE | apply Bsc.upA | apply Bsc.upD)))); rintro e w1 ⟨rfl, hxq⟩; obtain ⟨xq, rfl⟩ := hxq.out; clear hxq) | fail)
    go_ret2
    exact read2_err _ _ _ (by repeat (first | (with_reducible first | exact Ext.refl _ | assumption | apply Ext.alloc | apply Ext.ext | apply Ext.drew | refine Ext.setCell ?_ ?_ _) | (focus (simp [go_sem]; done))))
end Go.Proofs.YtbfgeokngekdmaaGreat

/- Layer 6: the sanity check, and the laws AeadActs and AeadOpens. -/
namespace Go.Aes
def lightB (ky : List UInt8) (A : List (List UInt8)) (b : List UInt8) : Bool := decide (ky.length ≤ 60) && decide (A.length ≤ 20) && decide (b.length ≤ 100) && A.all fun x => decide (x.length ≤ 60)
theorem lightB_spec {ky : List UInt8} {A : List (List UInt8)} {b : List UInt8} (h : lightB ky A b = true) : ky.length ≤ 60 ∧ A.length ≤ 20 ∧ b.length ≤ 100 ∧ ∀ x ∈ A, x.length ≤ 60 := by
  simpa [lightB, and_assoc] using h
theorem checkA_light {ky : List UInt8} {A : List (List UInt8)} (h1 : ky.length = 32) (h2 : A.length ≤ 16) (h3 : ∀ x ∈ A, x.length ≤ 60) : checkA ky A = 0 := by
  unfold checkA longA
  rw [if_neg (by omega), if_neg (by omega), if_neg]
  rw [Bool.not_eq_true, List.any_eq_false]
  intro x hx
  have := h3 x hx
  simp; omega
end Go.Aes
namespace Go.Proofs.YtbfgeokngekdmaaGreat
open Go.RowKit Go.Sec Go.Oct Go.Aes Go.Sha BigFrame

def s_sk : List UInt8 := [102, 102, 102, 101, 102, 100, 102, 99, 102, 98, 102, 97, 102, 57, 102, 56, 102, 55, 102, 54, 102, 53, 102, 52, 102, 51, 102, 50, 102, 49, 102, 48, 102, 48, 102, 49, 102, 50, 102, 51, 102, 52, 102, 53, 102, 54, 102, 55, 102, 56, 102, 57, 102, 97, 102, 98, 102, 99, 102, 100, 102, 101, 102, 102]
def b_sk : List UInt8 := [255, 254, 253, 252, 251, 250, 249, 248, 247, 246, 245, 244, 243, 242, 241, 240, 240, 241, 242, 243, 244, 245, 246, 247, 248, 249, 250, 251, 252, 253, 254, 255]
theorem un_sk : unhexTo hexV s_sk s_sk.length = b_sk := by decide +kernel
theorem hv_sk : ∀ k, (h : k < s_sk.length) → 0 ≤ Lib.indexByte digits s_sk[k] := by decide +kernel
def s_sa : List UInt8 := [49, 48, 49, 49, 49, 50, 49, 51, 49, 52, 49, 53, 49, 54, 49, 55, 49, 56, 49, 57, 49, 97, 49, 98, 49, 99, 49, 100, 49, 101, 49, 102, 50, 48, 50, 49, 50, 50, 50, 51, 50, 52, 50, 53, 50, 54, 50, 55]
def b_sa : List UInt8 := [16, 17, 18, 19, 20, 21, 22, 23, 24, 25, 26, 27, 28, 29, 30, 31, 32, 33, 34, 35, 36, 37, 38, 39]
theorem un_sa : unhexTo hexV s_sa s_sa.length = b_sa := by decide +kernel
theorem hv_sa : ∀ k, (h : k < s_sa.length) → 0 ≤ Lib.indexByte digits s_sa[k] := by decide +kernel
def s_sp : List UInt8 := [49, 49, 50, 50, 51, 51, 52, 52, 53, 53, 54, 54, 55, 55, 56, 56, 57, 57, 97, 97, 98, 98, 99, 99, 100, 100, 101, 101]
def b_sp : List UInt8 := [17, 34, 51, 68, 85, 102, 119, 136, 153, 170, 187, 204, 221, 238]
theorem un_sp : unhexTo hexV s_sp s_sp.length = b_sp := by decide +kernel
theorem hv_sp : ∀ k, (h : k < s_sp.length) → 0 ≤ Lib.indexByte digits s_sp[k] := by decide +kernel
def s_so : List UInt8 := [56, 53, 54, 51, 50, 100, 48, 55, 99, 54, 101, 56, 102, 51, 55, 102, 57, 53, 48, 97, 99, 100, 51, 50, 48, 97, 50, 101, 99, 99, 57, 51, 52, 48, 99, 48, 50, 98, 57, 54, 57, 48, 99, 52, 100, 99, 48, 52, 100, 97, 101, 102, 55, 102, 54, 97, 102, 101, 53, 99]
def b_so : List UInt8 := [133, 99, 45, 7, 198, 232, 243, 127, 149, 10, 205, 50, 10, 46, 204, 147, 64, 192, 43, 150, 144, 196, 220, 4, 218, 239, 127, 106, 254, 92]
theorem hx_so : hexL b_so = s_so := by decide +kernel
theorem ks1 : sealE b_sk [b_sa] b_sp = (b_so, 0) := by decide +kernel
theorem lso : b_so.length = 30 := rfl

end Go.Proofs.YtbfgeokngekdmaaGreat

/- Layer 20 as plain functions. -/
namespace Go.Chan
open Go.Sha Go.Oct Go.Aes Go.Sec
structure Ch where
  cl : Bool
  sec : List UInt8
  snd : List UInt8
  rcv : List UInt8
  st : Int
  rc : Int
deriving DecidableEq
def upS : List UInt8 := [115, 101, 99, 116, 105, 109, 101, 32, 117, 112]
def downS : List UInt8 := [115, 101, 99, 116, 105, 109, 101, 32, 100, 111, 119, 110]
def expS : List UInt8 := [115, 101, 99, 116, 105, 109, 101, 32, 101, 120, 112, 111, 114, 116]
def upK (s : List UInt8) : List UInt8 := expandK s upS 32
def downK (s : List UInt8) : List UInt8 := expandK s downS 32
def keyed (cl : Bool) (s : List UInt8) (st rc : Int) : Ch := ⟨cl, s, if cl then upK s else downK s, if cl then downK s else upK s, st, rc⟩
def zeroCh : Ch := ⟨false, [], [], [], 0, 0⟩
def fitC (c : Ch) : Prop := c.sec.length = 32 ∧ 0 ≤ c.st ∧ c.st ≤ 1099511627776 ∧ 0 ≤ c.rc ∧ c.rc ≤ 1099511627776
instance (c : Ch) : Decidable (fitC c) := inferInstanceAs (Decidable (_ ∧ _))
def validC (c : Ch) : Bool := decide (fitC c) && ((keyed c.cl c.sec c.st c.rc).snd == c.snd && (keyed c.cl c.sec c.st c.rc).rcv == c.rcv)
def beginE (cl : Bool) (secret hello : List UInt8) : Ch × Int := if secret.length < 16 ∨ 65535 < secret.length then (zeroCh, 5) else (keyed cl (hmac (sha hello) secret) 0 0, 0)
def headC (kind : Int) (n : Nat) : List UInt8 := b8 kind :: putL 2 (UInt64.ofNat (n + 16))
def num8 (st : Int) : List UInt8 := putL 8 (UInt64.ofNat st.toNat)
def recC (c : Ch) (kind : Int) (b : List UInt8) : List UInt8 := headC kind b.length ++ (sealE c.snd [num8 c.st, headC kind b.length] b).1
def sendE (c : Ch) (kind : Int) (b : List UInt8) : Ch × List UInt8 × Int :=
  if validC c = false then (zeroCh, [], 3) else if kind < 0 ∨ 255 < kind then (zeroCh, [], 4) else if 16384 < b.length then (zeroCh, [], 2) else if c.st = 1099511627776 then (zeroCh, [], 7)
  else (keyed c.cl c.sec (c.st + 1) c.rc, recC c kind b, 0)
def lenC (r : List UInt8) : Nat := (getL ((r.drop 1).take 2)).toNat
def inC (c : Ch) (r : List UInt8) : List UInt8 × Int := openE c.rcv [num8 c.rc, r.take 3] (r.drop 3)
def recvE (c : Ch) (r : List UInt8) : Ch × Int × List UInt8 × Int :=
  if validC c = false then (zeroCh, 0, [], 3) else if r.length < 3 then (zeroCh, 0, [], 1) else if r.length - 3 < lenC r then (zeroCh, 0, [], 1)
  else if lenC r < r.length - 3 ∨ 16400 < r.length - 3 then (zeroCh, 0, [], 2) else if c.rc = 1099511627776 then (zeroCh, 0, [], 7)
  else if (inC c r).2 ≠ 0 then (zeroCh, 0, [], 6) else (keyed c.cl c.sec c.st (c.rc + 1), n8 (r.getD 0 0), (inC c r).1, 0)
def exportE (c : Ch) (label ctx : List UInt8) (n : Int) : List UInt8 × Int :=
  if validC c = false then ([], 3) else if n < 0 ∨ 8160 < n then ([], 4) else (expandK c.sec (labelK expS label ctx) n.toNat, 0)
def renewE (c : Ch) (fresh : List UInt8) : Ch × Int :=
  if validC c = false then (zeroCh, 3) else if fresh.length < 16 ∨ 64 < fresh.length then (zeroCh, 5) else (keyed c.cl (hmac fresh c.sec) 0 0, 0)

theorem headC_length (kind : Int) (n : Nat) : (headC kind n).length = 3 := by simp [headC, putL_length]
theorem num8_length (st : Int) : (num8 st).length = 8 := putL_length _ _
theorem upK_length (s : List UInt8) : (upK s).length = 32 := expandK_length _ _ _
theorem downK_length (s : List UInt8) : (downK s).length = 32 := expandK_length _ _ _
theorem keyed_snd (cl : Bool) (s : List UInt8) (st rc : Int) : (keyed cl s st rc).snd.length = 32 := by cases cl <;> simp [keyed, upK_length, downK_length]
theorem keyed_rcv (cl : Bool) (s : List UInt8) (st rc : Int) : (keyed cl s st rc).rcv.length = 32 := by cases cl <;> simp [keyed, upK_length, downK_length]
theorem keyed_snd_eq (cl : Bool) (s : List UInt8) (st rc st' rc' : Int) : (keyed cl s st rc).snd = (keyed (!cl) s st' rc').rcv := by cases cl <;> simp [keyed]
/-- A valid channel is one that was made of its secret. -/
theorem valid_keyed {c : Ch} (h : validC c = true) : fitC c ∧ c = keyed c.cl c.sec c.st c.rc := by
  unfold validC at h
  simp only [Bool.and_eq_true, decide_eq_true_eq, beq_iff_eq] at h
  obtain ⟨h1, h2, h3⟩ := h
  refine ⟨h1, ?_⟩
  cases c
  simp only [keyed] at h2 h3 ⊢
  simp only [h2, h3]
theorem keyed_valid {cl : Bool} {s : List UInt8} {st rc : Int} (h : fitC (keyed cl s st rc)) : validC (keyed cl s st rc) = true := by
  unfold validC
  simp only [Bool.and_eq_true, decide_eq_true_eq, beq_iff_eq]
  exact ⟨h, rfl, rfl⟩
theorem fit_keyed {cl : Bool} {s : List UInt8} {st rc : Int} : fitC (keyed cl s st rc) ↔ s.length = 32 ∧ 0 ≤ st ∧ st ≤ 1099511627776 ∧ 0 ≤ rc ∧ rc ≤ 1099511627776 := Iff.rfl
theorem ad_ok {ky : List UInt8} (hk : ky.length = 32) (st kind : Int) (n : Nat) : checkA ky [num8 st, headC kind n] = 0 :=
  checkA_light hk (by simp) (by simp [num8_length, headC_length])
theorem recC_length {c : Ch} (hc : c.snd.length = 32) (kind : Int) (b : List UInt8) (hb : b.length ≤ 65519) : (recC c kind b).length = b.length + 19 := by
  unfold recC
  rw [List.length_append, headC_length, sealE_ok (ad_ok hc _ _ _) hb]
  simp only [List.length_append, s2v_length, stream_length]; omega
theorem sendE_ok {cl : Bool} {s : List UInt8} {st rc kind : Int} {b : List UInt8} (h : fitC (keyed cl s st rc)) (hs : st < 1099511627776) (h0 : 0 ≤ kind) (h1 : kind ≤ 255) (hb : b.length ≤ 16384) :
    sendE (keyed cl s st rc) kind b = (keyed cl s (st + 1) rc, recC (keyed cl s st rc) kind b, 0) := by
  unfold sendE
  rw [if_neg (by rw [keyed_valid h]; simp), if_neg (by omega), if_neg (by omega), if_neg (by show ¬ st = _; omega)]
  rfl
/-- What one end sends the other one receives. -/
theorem recv_send {cl : Bool} {s : List UInt8} {st rc st' kind : Int} {b : List UInt8} (h : fitC (keyed (!cl) s st' st)) (hs : st < 1099511627776) (h0 : 0 ≤ kind) (h1 : kind ≤ 255) (hb : b.length ≤ 16384) :
    recvE (keyed (!cl) s st' st) (recC (keyed cl s st rc) kind b) = (keyed (!cl) s st' (st + 1), kind, b, 0) := by
  have hl := recC_length (keyed_snd cl s st rc) kind b (by omega)
  have hk := keyed_snd cl s st rc
  have hhl := headC_length kind b.length
  have ht : (recC (keyed cl s st rc) kind b).take 3 = headC kind b.length := by
    unfold recC; rw [List.take_append_of_le_length (by omega), List.take_of_length_le (by omega)]
  have hd : (recC (keyed cl s st rc) kind b).drop 3 = (sealE (keyed cl s st rc).snd [num8 (keyed cl s st rc).st, headC kind b.length] b).1 := by
    unfold recC; rw [List.drop_append_of_le_length (by omega), List.drop_of_length_le (by omega), List.nil_append]
  have hg : (recC (keyed cl s st rc) kind b).getD 0 0 = b8 kind := rfl
  have hn : lenC (recC (keyed cl s st rc) kind b) = b.length + 16 := by
    unfold lenC
    have : ((recC (keyed cl s st rc) kind b).drop 1).take 2 = putL 2 (UInt64.ofNat (b.length + 16)) := by
      unfold recC headC
      rw [List.cons_append, List.drop_succ_cons, List.drop_zero, List.take_append_of_le_length (by rw [putL_length]; omega), List.take_of_length_le (by rw [putL_length]; omega)]
    rw [this, getL_put 2 _ (by omega) (by omega)]
  have ho : inC (keyed (!cl) s st' st) (recC (keyed cl s st rc) kind b) = (b, 0) := by
    unfold inC
    rw [ht, hd, ← keyed_snd_eq cl s st rc st' st]
    exact openE_seal (ad_ok hk _ _ _) (by omega)
  unfold recvE
  rw [if_neg (by rw [keyed_valid h]; simp), hl, hn, ho, hg, if_neg (by omega), if_neg (by omega), if_neg (by omega), if_neg (by show ¬ st = _; omega), if_neg (by simp), n8_b8]
  have : kind % 256 = kind := by omega
  rw [this]
  rfl
theorem renewE_ok {cl : Bool} {s : List UInt8} {st rc : Int} {f : List UInt8} (h : fitC (keyed cl s st rc)) (h1 : 16 ≤ f.length) (h2 : f.length ≤ 64) : renewE (keyed cl s st rc) f = (keyed cl (hmac f s) 0 0, 0) := by
  unfold renewE
  rw [if_neg (by rw [keyed_valid h]; simp), if_neg (by omega)]
  rfl
theorem exportE_ok {cl : Bool} {s : List UInt8} {st rc : Int} {l x : List UInt8} {n : Nat} (h : fitC (keyed cl s st rc)) (hn : n ≤ 8160) : exportE (keyed cl s st rc) l x (n : Int) = (expandK s (labelK expS l x) n, 0) := by
  unfold exportE
  rw [if_neg (by rw [keyed_valid h]; simp), if_neg (by omega)]
  rfl
end Go.Chan

/- Layer 19 as plain functions. -/
namespace Go.Cook
open Go.Sha Go.Oct Go.Aes Go.Sec
abbrev Ring := List (Int × List UInt8)
def startS : List UInt8 := [115, 101, 99, 116, 105, 109, 101, 32, 115, 116, 97, 114, 116]
def nextS : List UInt8 := [115, 101, 99, 116, 105, 109, 101, 32, 110, 101, 120, 116]
def okM (m : Int × List UInt8) : Bool := decide (0 ≤ m.1 ∧ m.1 ≤ 4294967295 ∧ m.2.length = 32)
/-- The first so many are of the form, and different. -/
def fineR (r : Ring) : Bool := r.all okM && decide (r.map (·.1)).Nodup
def validR (r : Ring) : Bool := fineR r && decide (1 ≤ r.length ∧ r.length ≤ 4)
def startE (id : Int) (seed : List UInt8) : Ring × Int :=
  if id < 0 ∨ 4294967295 < id then ([], 4) else if seed.length ≠ 32 then ([], 5) else ([(id, expandK seed startS 32)], 0)
def hd (r : Ring) : Int × List UInt8 := r.getD 0 (0, [])
def rotR (r : Ring) : Ring := (((hd r).1 + 1) % 4294967296, expandK (hd r).2 nextS 32) :: r.take 3
def rotateE (r : Ring) : Ring × Int :=
  if validR r = false then ([], 3) else if ((hd r).1 + 1) % 4294967296 ∈ (r.take 3).map (·.1) then ([], 7) else (rotR r, 0)
def idB (id : Int) : List UInt8 := putL 4 (UInt64.ofNat id.toNat)
def plainC (algo : Int) (up down : List UInt8) : List UInt8 := putL 2 (UInt64.ofNat algo.toNat) ++ ([0, 0] ++ (up ++ down))
def cookC (m : Int × List UInt8) (algo : Int) (up down nonce : List UInt8) : List UInt8 :=
  idB m.1 ++ (nonce ++ (sealE m.2 [idB m.1, nonce] (plainC algo up down)).1)
def makeE (r : Ring) (algo : Int) (up down nonce : List UInt8) : List UInt8 × Int :=
  if validR r = false then ([], 3) else if algo < 0 ∨ 65535 < algo then ([], 4) else if up.length ≠ 32 ∨ down.length ≠ 32 then ([], 5) else if nonce.length ≠ 16 then ([], 3)
  else (cookC (hd r) algo up down nonce, 0)
def idOf (c : List UInt8) : Int := n64 (getL (c.take 4))
def idE (c : List UInt8) : Int × Int := if c.length ≠ 104 then (0, 3) else (idOf c, 0)
def ageOf (r : Ring) (c : List UInt8) : Option Nat := r.findIdx? fun m => m.1 == idOf c
def innerE (r : Ring) (i : Nat) (c : List UInt8) : List UInt8 × Int := openE (r.getD i (0, [])).2 [c.take 4, (c.drop 4).take 16] (c.drop 20)
structure Opened where
  algo : Int
  up : List UInt8
  down : List UInt8
  age : Int
  err : Int
deriving DecidableEq
def openR (r : Ring) (c : List UInt8) : Opened :=
  if validR r = false ∨ c.length ≠ 104 then ⟨0, [], [], 0, 3⟩ else
  match ageOf r c with
  | none => ⟨0, [], [], 0, 5⟩
  | some i => if (innerE r i c).2 ≠ 0 ∨ ((innerE r i c).1.drop 2).take 2 ≠ [0, 0] then ⟨0, [], [], 0, 6⟩
    else ⟨n64 (getL ((innerE r i c).1.take 2)), ((innerE r i c).1.drop 4).take 32, ((innerE r i c).1.drop 36).take 32, i, 0⟩

theorem idB_length (id : Int) : (idB id).length = 4 := putL_length _ _
theorem plainC_length (algo : Int) (up down : List UInt8) : (plainC algo up down).length = 4 + up.length + down.length := by simp [plainC, putL_length]; omega
theorem cad_ok {ky nonce : List UInt8} (hk : ky.length = 32) (hn : nonce.length = 16) (id : Int) : checkA ky [idB id, nonce] = 0 :=
  checkA_light hk (by simp) (by simp [idB_length]; omega)
theorem validR_iff {r : Ring} : validR r = true ↔ (∀ m ∈ r, 0 ≤ m.1 ∧ m.1 ≤ 4294967295 ∧ m.2.length = 32) ∧ (r.map (·.1)).Nodup ∧ 1 ≤ r.length ∧ r.length ≤ 4 := by
  unfold validR fineR okM
  simp [and_assoc]
theorem hd_mem {r : Ring} (h : 1 ≤ r.length) : hd r ∈ r := by
  unfold hd
  rw [List.getD_eq_getElem?_getD, List.getElem?_eq_getElem (by omega), Option.getD_some]
  exact List.getElem_mem _
theorem rot_in {r : Ring} : ∀ m ∈ r.take 3, m ∈ r := fun _ h => List.mem_of_mem_take h
theorem rotR_valid {r : Ring} (h : validR r = true) (hn : ((hd r).1 + 1) % 4294967296 ∉ (r.take 3).map (·.1)) : validR (rotR r) = true := by
  obtain ⟨h1, h2, h3, h4⟩ := validR_iff.1 h
  refine validR_iff.2 ⟨?_, ?_, ?_, ?_⟩
  · intro m hm
    rcases List.mem_cons.1 hm with rfl | hm
    · exact ⟨by simp only; omega, by simp only; omega, expandK_length _ _ _⟩
    · exact h1 m (rot_in m hm)
  · unfold rotR
    rw [List.map_cons, List.nodup_cons]
    exact ⟨hn, by rw [List.map_take]; exact h2.sublist (List.take_sublist _ _)⟩
  · simp [rotR]
  · simp [rotR]; omega
/-- The identifiers fall, from a number on. -/
def Down (r : Ring) : Prop := (r.map (·.1)).Pairwise (· > ·)
theorem down_rot {r : Ring} (h : validR r = true) (hd' : Down r) (hb : (hd r).1 < 4294967295) : Down (rotR r) ∧ (hd (rotR r)).1 = (hd r).1 + 1 ∧ validR (rotR r) = true ∧ rotateE r = (rotR r, 0) := by
  obtain ⟨h1, h2, h3, h4⟩ := validR_iff.1 h
  have h0 := (h1 _ (hd_mem h3)).1
  have e : ((hd r).1 + 1) % 4294967296 = (hd r).1 + 1 := by omega
  have hle : ∀ m ∈ r, m.1 ≤ (hd r).1 := by
    intro m hm
    cases r with
    | nil => cases hm
    | cons x r =>
      have hx : hd (x :: r) = x := rfl
      rw [hx]
      rcases List.mem_cons.1 hm with rfl | hm
      · exact Int.le_refl _
      · unfold Down at hd'
        rw [List.map_cons, List.pairwise_cons] at hd'
        have := hd'.1 m.1 (List.mem_map_of_mem hm)
        omega
  have hn : ((hd r).1 + 1) % 4294967296 ∉ (r.take 3).map (·.1) := by
    rw [e]
    intro hm
    obtain ⟨m, hm, he⟩ := List.mem_map.1 hm
    have := hle m (rot_in m hm)
    omega
  refine ⟨?_, ?_, rotR_valid h hn, ?_⟩
  · unfold Down rotR
    rw [List.map_cons, List.pairwise_cons]
    refine ⟨?_, by rw [List.map_take]; exact hd'.sublist (List.take_sublist _ _)⟩
    intro a ha
    obtain ⟨m, hm, rfl⟩ := List.mem_map.1 ha
    have := hle m (rot_in m hm)
    simp only; omega
  · show ((hd r).1 + 1) % 4294967296 = _
    exact e
  · unfold rotateE
    rw [if_neg (by rw [h]; simp), if_neg hn]
/-- The ring of the statements' kit. -/
def ring0 (s : Nat) (key : List UInt8) : Ring := [((s : Int), expandK key startS 32)]
def rots (r : Ring) : Nat → Ring
  | 0 => r
  | t + 1 => rotR (rots r t)
theorem rots_add (r : Ring) (a b : Nat) : rots (rots r a) b = rots r (a + b) := by
  induction b with
  | zero => rfl
  | succ b ih => rw [rots, ih]; rfl
theorem rotR_length (r : Ring) : (rotR r).length = min (r.length + 1) 4 := by simp [rotR]; omega
/-- A ring of the kit, behind so many turns. -/
structure Fine (r : Ring) : Prop where
  ok : validR r = true
  down : Down r
theorem Fine.rot {r : Ring} (h : Fine r) (hb : (hd r).1 < 4294967295) : Fine (rotR r) ∧ (hd (rotR r)).1 = (hd r).1 + 1 ∧ rotateE r = (rotR r, 0) := by
  obtain ⟨h1, h2, h3, h4⟩ := down_rot h.ok h.down hb
  exact ⟨⟨h3, h1⟩, h2, h4⟩
theorem fine0 (s : Nat) (key : List UInt8) (hs : s ≤ 4294967295) : Fine (ring0 s key) := by
  refine ⟨validR_iff.2 ⟨?_, by simp [ring0], by simp [ring0], by simp [ring0]⟩, by simp [Down, ring0]⟩
  intro m hm
  simp only [ring0, List.mem_singleton] at hm
  subst hm
  exact ⟨by simp only; omega, by simp only; omega, expandK_length _ _ _⟩
theorem fineT {r : Ring} (h : Fine r) (t : Nat) (hb : (hd r).1 + t ≤ 4294967295) : Fine (rots r t) ∧ (hd (rots r t)).1 = (hd r).1 + t := by
  induction t with
  | zero => exact ⟨h, by simp [rots]⟩
  | succ t ih =>
    obtain ⟨h1, h2⟩ := ih (by omega)
    obtain ⟨h3, h4, _⟩ := h1.rot (by omega)
    exact ⟨h3, by rw [rots, h4, h2]; omega⟩
theorem startE_ok {s : Nat} {seed : List UInt8} (h : s ≤ 4294967295) (hl : seed.length = 32) : startE (s : Int) seed = (ring0 s seed, 0) := by
  unfold startE
  rw [if_neg (by omega), if_neg (by omega)]
  rfl
theorem rots_get (r : Ring) (t : Nat) (ht : t ≤ 3) (hr : 1 ≤ r.length) : (rots r t)[t]? = r[0]? := by
  have g : ∀ (r : Ring) (i : Nat), i < 3 → (rotR r)[i + 1]? = r[i]? := fun r i hi => by
    unfold rotR
    rw [List.getElem?_cons_succ, List.getElem?_take, if_pos hi]
  match t, ht with
  | 0, _ => rfl
  | 1, _ => exact g _ 0 (by omega)
  | 2, _ => exact (g _ 1 (by omega)).trans (g _ 0 (by omega))
  | 3, _ => exact (g _ 2 (by omega)).trans ((g _ 1 (by omega)).trans (g _ 0 (by omega)))
theorem n64_ofNat (n : Nat) (h : n < 18446744073709551616) : n64 (UInt64.ofNat n) = (n : Int) := by
  unfold n64; rw [UInt64.toNat_ofNat']; omega
/-- What a cookie consists of. -/
theorem cookC_parts {m : Int × List UInt8} {algo : Int} {up down nonce : List UInt8} (h0 : 0 ≤ m.1) (h1 : m.1 ≤ 4294967295) (hk : m.2.length = 32) (hn : nonce.length = 16) (hu : up.length = 32) (hd' : down.length = 32) :
    (cookC m algo up down nonce).length = 104 ∧ (cookC m algo up down nonce).take 4 = idB m.1 ∧ ((cookC m algo up down nonce).drop 4).take 16 = nonce ∧ (cookC m algo up down nonce).drop 20 = (sealE m.2 [idB m.1, nonce] (plainC algo up down)).1 ∧ idOf (cookC m algo up down nonce) = m.1 := by
  have hl := idB_length m.1
  have hpl := plainC_length algo up down
  have ht : (cookC m algo up down nonce).take 4 = idB m.1 := by unfold cookC; rw [List.take_append_of_le_length (by omega), List.take_of_length_le (by omega)]
  have hd4 : (cookC m algo up down nonce).drop 4 = nonce ++ (sealE m.2 [idB m.1, nonce] (plainC algo up down)).1 := by
    unfold cookC; rw [List.drop_append_of_le_length (by omega), List.drop_of_length_le (by omega), List.nil_append]
  refine ⟨?_, ht, ?_, ?_, ?_⟩
  · unfold cookC
    rw [sealE_ok (cad_ok hk hn _) (by omega)]
    simp only [List.length_append, s2v_length, stream_length, hl, hn, hpl]; omega
  · rw [hd4, List.take_append_of_le_length (by omega), List.take_of_length_le (by omega)]
  · rw [show 20 = 4 + 16 from rfl, ← List.drop_drop, hd4, List.drop_append_of_le_length (by omega), List.drop_of_length_le (by omega), List.nil_append]
  · unfold idOf
    rw [ht]
    unfold idB
    unfold n64
    rw [getL_put 4 _ (by omega) (by omega)]
    omega
theorem findIdx_at {r : Ring} {c : List UInt8} {i : Nat} {m : Int × List UInt8} (hnd : (r.map (·.1)).Nodup) (hm : r[i]? = some m) (hid : m.1 = idOf c) : ageOf r c = some i := by
  unfold ageOf
  obtain ⟨hi, hm⟩ := List.getElem?_eq_some_iff.1 hm
  rw [List.findIdx?_eq_some_iff_getElem]
  refine ⟨hi, by rw [hm]; simpa using hid, fun j hj => ?_⟩
  have := List.pairwise_iff_getElem.1 hnd j i (by simp; omega) (by simpa using hi) hj
  simp only [List.getElem_map] at this
  rw [hm, hid] at this
  simpa using this
/-- What a ring puts into a cookie, its rotations open. -/
theorem open_make {r : Ring} {i : Nat} {m : Int × List UInt8} {algo : Int} {up down nonce : List UInt8} (hr : validR r = true) (hm : r[i]? = some m) (ha : 0 ≤ algo) (ha2 : algo ≤ 65535) (hn : nonce.length = 16) (hu : up.length = 32) (hd' : down.length = 32) :
    openR r (cookC m algo up down nonce) = ⟨algo, up, down, i, 0⟩ := by
  obtain ⟨h1, h2, h3, h4⟩ := validR_iff.1 hr
  obtain ⟨k0, k1, k2⟩ := h1 m (List.mem_of_getElem? hm)
  obtain ⟨c1, c2, c3, c4, c5⟩ := cookC_parts (algo := algo) k0 k1 k2 hn hu hd'
  have hpl := plainC_length algo up down
  have hin : innerE r i (cookC m algo up down nonce) = (plainC algo up down, 0) := by
    unfold innerE
    rw [c2, c3, c4, List.getD_eq_getElem?_getD, hm, Option.getD_some]
    exact openE_seal (cad_ok k2 hn _) (by omega)
  have p2 := putL_length 2 (UInt64.ofNat algo.toNat)
  have e1 : (plainC algo up down).take 2 = putL 2 (UInt64.ofNat algo.toNat) := by unfold plainC; rw [List.take_append_of_le_length (by omega), List.take_of_length_le (by omega)]
  have e2 : (plainC algo up down).drop 2 = [0, 0] ++ (up ++ down) := by unfold plainC; rw [List.drop_append_of_le_length (by omega), List.drop_of_length_le (by omega), List.nil_append]
  have e3 : (plainC algo up down).drop 4 = up ++ down := by rw [show 4 = 2 + 2 from rfl, ← List.drop_drop, e2]; rfl
  have e4 : (plainC algo up down).drop 36 = down := by rw [show 36 = 4 + 32 from rfl, ← List.drop_drop, e3, List.drop_append_of_le_length (by omega), List.drop_of_length_le (by omega), List.nil_append]
  unfold openR
  rw [if_neg (by simp [hr, c1]), findIdx_at h2 hm c5.symm]
  simp only
  rw [hin]
  simp only
  rw [e1, e2, e3, e4, if_neg (by simp), List.take_append_of_le_length (by omega), List.take_of_length_le (by omega), List.take_of_length_le (by omega)]
  unfold n64
  rw [getL_put 2 _ (by omega) (by omega)]
  congr 1; omega
/-- A cookie whose key is no longer there. -/
theorem open_gone {r : Ring} {c : List UInt8} (hr : validR r = true) (hc : c.length = 104) (h : ∀ m ∈ r, m.1 ≠ idOf c) : openR r c = ⟨0, [], [], 0, 5⟩ := by
  have : ageOf r c = none := by
    unfold ageOf
    rw [List.findIdx?_eq_none_iff]
    intro m hm
    simpa using h m hm
  unfold openR
  rw [if_neg (by simp [hr, hc]), this]
theorem rots4_ids {r : Ring} (h : Fine r) (t : Nat) (ht : 4 ≤ t) (hb : (hd r).1 + t ≤ 4294967295) : ∀ m ∈ rots r t, (hd r).1 < m.1 := by
  have key : ∀ (q : Ring), Fine q → (hd q).1 < 4294967295 → ∀ (B : Int) (k : Nat), B ≤ (hd q).1 → k ≤ 3 → (∀ m ∈ q.take k, B < m.1) → ∀ m ∈ (rotR q).take (k + 1), B < m.1 := by
    intro q hq hqb B k hB hk hm m hmm
    rw [rotR, List.take_succ_cons] at hmm
    rcases List.mem_cons.1 hmm with rfl | hmm
    · have h0 := ((validR_iff.1 hq.ok).1 _ (hd_mem (validR_iff.1 hq.ok).2.2.1)).1
      simp only
      have : ((hd q).1 + 1) % 4294967296 = (hd q).1 + 1 := by omega
      omega
    · rw [List.take_take, Nat.min_eq_left hk] at hmm
      exact hm m hmm
  have step : ∀ n, n ≤ t → ∀ m ∈ (rots r n).take (min n 4), (hd r).1 < m.1 := by
    intro n
    induction n with
    | zero => intro _ m hm; simp at hm
    | succ n ih =>
      intro hn m hm
      obtain ⟨f1, f2⟩ := fineT h n (by omega)
      rcases Nat.lt_or_ge n 4 with h4 | h4
      · rw [show min (n + 1) 4 = n + 1 by omega] at hm
        have := ih (by omega)
        rw [show min n 4 = n by omega] at this
        exact key _ f1 (by omega) _ n (by omega) (by omega) this m hm
      · rw [show min (n + 1) 4 = 3 + 1 by omega] at hm
        have := ih (by omega)
        rw [show min n 4 = 4 by omega] at this
        exact key _ f1 (by omega) _ 3 (by omega) (by omega) (fun m hm => this m (by rw [← List.take_append_drop 3 ((rots r n).take 4), List.take_take] ; exact List.mem_append_left _ hm)) m hm
  intro m hm
  have hl : (rots r t).length ≤ 4 := (validR_iff.1 (fineT h t hb).1.ok).2.2.2
  exact step t (Nat.le_refl _) m (by rw [List.take_of_length_le (by omega)]; exact hm)
end Go.Cook
