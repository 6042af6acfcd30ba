/- Lemmas of this claim, several texts joined. -/
import Derived.Test.YtkjdlbjbppbmdaaZ4
import Derived.Test.YtkjdlbjbppbmdaaZ12
import Derived.Test.YtkjdlbjbppbmdaaZ16
import Derived.Test.YtkjdlbjbppbmdaaZ19
import Derived.Test.YtkjdlbjbppbmdaaZ28
import Derived.Test.YtkjdlbjbppbmdaaZ29
set_option linter.unusedVariables false
set_option linter.unusedSimpArgs false
/- Layer 6: check, copies of lists, the stream of a tag. -/
namespace Go.Proofs.Ytkjdlbjbppbmdaa
open Go.RowKit Go.Sec Go.Oct Go.Aes BigFrame

set_option maxRecDepth 100000 in
theorem long1_any (a : Option Addr) (n c : Nat) (l : List UInt8) (w : World) (h : Sl w a n l) :
    Calls Try.prog 174 #[.slice a n c] w fun e w' => e = .returned (.bool (decide (65519 < l.length))) ∧ Ext w w' := by
  have hl := h.len
  by_cases hn : 65519 < n
  · have hI : (65519 : Int) < (n : Int) := by omega
    have e := Lib.hid (show decide (65519 < l.length) = true by simp; omega)
    clear hl
    go_enter Try.func174, Try.ntmps174
    go_wp2
    go_ret
    exact ⟨by rw [e.out]; rfl, Ext.refl _⟩
  · have hI : ¬ (65519 : Int) < (n : Int) := by omega
    have e := Lib.hid (show decide (65519 < l.length) = false by simp; omega)
    clear hl
    go_enter Try.func174, Try.ntmps174
    go_wp2
    go_ret
    exact ⟨by rw [e.out]; rfl, Ext.refl _⟩

def IdxLong (A : List (List UInt8)) (w : World) (e : Ending) (w' : World) : Prop := ∃ r : Int, e = .returned (.int .i64 r) ∧ (0 ≤ r ↔ longA A = true) ∧ Ext w w'
set_option maxRecDepth 100000 in
set_option maxHeartbeats 4000000 in
theorem indexLong_any (a : Option Addr) (n c : Nat) (A : List (List UInt8)) (w : World) (h : Bsc w a n A) (hn : n ≤ 1000000) :
    Calls Try.prog 155 #[.slice a n c, .func (.func 174) #[] #[]] w (IdxLong A w) := by
  have hl := h.len
  go_enter Try.func155, Try.ntmps155
  go_wp2_with fail
  go_loopw [8] (fun v8 wr => ∃ i : Nat, i ≤ n ∧ v8 = .int .i64 i ∧ Hid (longA (A.take i) = false) ∧ Ext w wr) (fun v8 _ => n - (intOf v8).toNat)
  case atStart => exact ⟨0, by omega, rfl, Lib.hid rfl, Ext.refl _⟩
  case round =>
    obtain ⟨i, hi, rfl, hm, hx⟩ := hrel
    obtain ⟨x, rfl⟩ := hx.out
    by_cases hlt : i < n
    · obtain ⟨b0, o0, a', n', c', rfl, hb0, hcell, hc', hS⟩ := (h.ext hx).at i hlt
      have i0 : (0 : Int) ≤ (i : Int) := by omega
      have i1 : (i : Int) < (n : Int) := by omega
      have hsu := Lib.hid (show longA (A.take (i + 1)) = decide (65519 < (A[i]'(by omega)).length) by
        rw [List.take_succ_eq_append_getElem (by omega)]
        unfold longA
        rw [List.any_append]
        have := hm.out
        unfold longA at this
        rw [this]; simp)
      have htr := Lib.hid (show longA (A.take (i + 1)) = true → longA A = true from fun h => by
        unfold longA at h ⊢
        obtain ⟨x, hx, hp⟩ := List.any_eq_true.1 h
        exact List.any_eq_true.2 ⟨x, List.mem_of_mem_take hx, hp⟩)
      go_wp2_with fail
      refine (long1_any _ _ _ _ _ hS).mono ?_; rintro e w1 ⟨rfl, hx1⟩
      obtain ⟨x1, rfl⟩ := hx1.out
      cases hb : decide (65519 < (A[i]'(by omega)).length)
      · have hm2 := Lib.hid (show longA (A.take (i + 1)) = false by rw [hsu.out, hb])
        clear hb
        go_wp2_with fail
        go_roundw
        case rel => exact ⟨i + 1, by omega, by go_num, hm2, (by repeat (first | (with_reducible first | exact Ext.refl _ | assumption | apply Ext.alloc | apply Ext.ext | apply Ext.drew | refine Ext.setCell ?_ ?_ _) | (focus (simp [go_sem]; done))))⟩
        case measure => simp [intOf]; omega
      · have hm2 := Lib.hid (show longA A = true from htr.out (by rw [hsu.out, hb]))
        clear hb
        go_wp2_with fail
        go_ret
        exact ⟨i, rfl, by rw [hm2.out]; simp, (by repeat (first | (with_reducible first | exact Ext.refl _ | assumption | apply Ext.alloc | apply Ext.ext | apply Ext.drew | refine Ext.setCell ?_ ?_ _) | (focus (simp [go_sem]; done))))⟩
    · obtain rfl : i = n := by omega
      have hlo := Lib.hid (show longA A = false by have := hm.out; rwa [List.take_of_length_le (by omega)] at this)
      go_wp2_with fail
      go_ret
      exact ⟨-1, rfl, by rw [hlo.out]; simp, (by repeat (first | (with_reducible first | exact Ext.refl _ | assumption | apply Ext.alloc | apply Ext.ext | apply Ext.drew | refine Ext.setCell ?_ ?_ _) | (focus (simp [go_sem]; done))))⟩

theorem containsLong_any (a : Option Addr) (n c : Nat) (A : List (List UInt8)) (w : World) (h : Bsc w a n A) (hn : n ≤ 1000000) :
    Calls Try.prog 98 #[.slice a n c, .func (.func 174) #[] #[]] w fun e w' => e = .returned (.bool (longA A)) ∧ Ext w w' := by
  go_enter Try.func98, Try.ntmps98
  go_wp2_with fail
  refine (indexLong_any _ _ _ _ _ h hn).mono ?_; rintro e w1 ⟨r, rfl, hr, hx1⟩
  have hd := Lib.hid (show decide (0 ≤ r) = longA A by rw [Bool.eq_iff_iff]; simpa using hr)
  clear hr
  go_wp2_with fail
  go_ret
  exact ⟨by rw [← hd.out]; rfl, hx1⟩

theorem ne32 {n : Nat} (h : n ≠ 32) : ((n : Int) != 32) = true := by rw [bne_iff_ne]; omega
set_option maxRecDepth 100000 in
set_option maxHeartbeats 4000000 in
theorem check_any (a b : Option Addr) (n c m d : Nat) (ky : List UInt8) (A : List (List UInt8)) (w : World) (hk : Sl w a n ky) (hA : Bsc w b m A) (hm : m ≤ 1000000) :
    Calls Try.prog 146 #[.slice a n c, .slice b m d] w fun e w' => e = .returned (.int .i64 (checkA ky A)) ∧ Ext w w' := by
  have hkl := hk.len
  have hAl := hA.len
  by_cases h1 : n = 32
  · by_cases h2 : 16 < m
    · have e := Lib.hid (show checkA ky A = 8 by unfold checkA; rw [if_neg (by omega), if_pos (by omega)])
      have hI : ((n : Int) != 32) = false := by rw [bne_eq_false_iff_eq]; omega
      have hI2 : (16 : Int) < (m : Int) := by omega
      clear hkl h1
      go_enter Try.func146, Try.ntmps146
      go_wp2_with fail
      go_ret
      exact ⟨by rw [e.out]; rfl, Ext.refl _⟩
    · cases hb : longA A
      all_goals
        have e := Lib.hid (show checkA ky A = if longA A then 2 else 0 by unfold checkA; rw [if_neg (by omega), if_neg (by omega)])
        rw [hb] at e
        have hI : ((n : Int) != 32) = false := by rw [bne_eq_false_iff_eq]; omega
        have hI2 : ¬ (16 : Int) < (m : Int) := by omega
        have hc := fun w h => containsLong_any b m d A w h hm
        rw [hb] at hc
        clear hkl h1 hb
        go_enter Try.func146, Try.ntmps146
        go_wp2_with (first | (go_at_call 98; (with_reducible refine (hc ?_ ?hq35).mono ?_); (case hq35 => (repeat' (first | with_reducible assumption | (refine bsc2 ?_ ?_ ?_ ?_ _; (· (repeat' (first | with_reducible assumption | (with_reducible exact zeros16 _) | (with_reducible exact sl_new1 _ _ _) | (with_reducible first | apply Sl.upE | apply Sl.upA | apply Sl.upD)))); (· omega); (· (repeat' (first | with_reducible assumption | (with_reducible exact zeros16 _) | (with_reducible exact sl_new1 _ _ _) | (with_reducible first | apply Sl.upE | apply Sl.upA | apply Sl.upD)))); (· omega)) | (with_reducible first | apply Bsc.upE | apply Bsc.upA | apply Bsc.upD)))); rintro e w1 ⟨rfl, hxq⟩; obtain ⟨xq, rfl⟩ := hxq.out; clear hxq) | fail)
        go_ret
        exact ⟨by rw [e.out]; rfl, (by repeat (first | (with_reducible first | exact Ext.refl _ | assumption | apply Ext.alloc | apply Ext.ext | apply Ext.drew | refine Ext.setCell ?_ ?_ _) | (focus (simp [go_sem]; done))))⟩
  · have e := Lib.hid (show checkA ky A = 5 by unfold checkA; rw [if_pos (by omega)])
    have hI := ne32 h1
    clear hkl h1
    go_enter Try.func146, Try.ntmps146
    go_wp2_with fail
    go_ret
    exact ⟨by rw [e.out]; rfl, Ext.refl _⟩

set_option maxRecDepth 100000 in
set_option maxHeartbeats 2000000 in
theorem cloneB_any (base : Nat) (a : Option Addr) (n c : Nat) (A : List (List UInt8)) (w : World) (h : RdB w base a n A) (hbase : base ≤ w.heap.size) (hn : n ≤ 1000000) :
    Calls Try.prog 172 #[.slice a n c] w fun e w' => ∃ a' c', e = .returned (.slice a' n c') ∧ OwnB w' base a' n c' A ∧ Ext w w' := by
  have hnil := fun W (a : Option Addr) (n c : Nat) => Lib.run_eql_slice_nil (P := Try.prog) W 40 22 a n c 0 0 Try.underlying40
  cases a with
  | none =>
    obtain rfl : n = 0 := by
      obtain ⟨_, xs, h2, h3, _⟩ := h
      rcases h3 with h3 | ⟨_, _, h3, _⟩
      · subst h3; simpa using h2.symm
      · cases h3
    obtain rfl : A = [] := List.eq_nil_of_length_eq_zero h.1
    go_enter Try.func172, Try.ntmps172
    go_wp2
    go_ret
    exact ⟨_, _, rfl, OwnB.nil _ _, (by repeat (first | (with_reducible first | exact Ext.refl _ | assumption | apply Ext.alloc | apply Ext.ext | apply Ext.drew | refine Ext.setCell ?_ ?_ _) | (focus (simp [go_sem]; done))))⟩
  | some ad =>
    go_enter Try.func172, Try.ntmps172
    go_wp2_with (at_builtin; refine wpList_append_bs V8 rfl _ _ rfl base _ 0 0 [] rfl _ n c A rfl ((OwnB.empty _).mono0 hbase) (h.ext (Ext.of_alloc _ _)) (by omega) (by simp; omega) ?_; intro sa2 sc2 w2 hO2 hg2 hB2)
    go_ret
    simp only [Nat.zero_add, List.nil_append] at hO2
    refine ⟨_, _, rfl, hO2, ?_⟩
    have hx0 : Ext w (w.alloc (.cells #[] 22)) := (by repeat (first | (with_reducible first | exact Ext.refl _ | assumption | apply Ext.alloc | apply Ext.ext | apply Ext.drew | refine Ext.setCell ?_ ?_ _) | (focus (simp [go_sem]; done))))
    exact Below.grown hx0 hg2 (by simp) (fun g hg => by have e : w.heap.size = g := Option.some.inj hg; omega)

set_option maxRecDepth 100000 in
set_option maxHeartbeats 4000000 in
theorem astream_any (a b c : Option Addr) (ca cb cc n : Nat) (ky t l : List UInt8) (w : World) (hk : Sl w a 32 ky) (hca : 32 ≤ ca) (ht : Sl w b 16 t) (hl : Sl w c n l) (hn : n ≤ 65535) :
    Calls Try.prog 143 #[.slice a 32 ca, .slice b 16 cb, .slice c n cc] w (Read2 n (stream (ky.drop 16) (ctrOf t) l) (.int .i64 0) w) := by
  have htl := ht.len
  obtain ⟨b0, o0, rfl, hb0, _⟩ := hk.at 0 (by omega)
  have hk2 : Sl w (some ⟨b0, o0 + 16, none⟩) 16 (ky.drop 16) := by
    have := hk.drop ca 16 hca
    unfold sAdr at this
    rw [if_neg (by omega)] at this
    simpa [addr_add] using this
  have hC := Lib.hid (show ctrOf t = (t.set 8 (at' t 8 &&& 127)).set 12 (at' t 12 &&& 127) from rfl)
  have h12 : (t.set 8 (at' t 8 &&& 127)).getD 12 0 = at' t 12 := by simp [at', List.getD, List.getElem?_set]
  have q : (16 : Int) ≤ (ca : Int) := by omega
  go_enter Try.func143, Try.ntmps143
  go_wp2_with fail; (with_reducible refine (clone_any _ 16 _ t _ ht (by omega)).mono ?_); rintro e w1 ⟨a1, c1, rfl, hO1, hx1⟩
  obtain ⟨g, rfl, hg, hgb, hcell8, hfr8, _⟩ := hO1.at 8 (by omega)
  obtain ⟨_, e1, _, _, hcell12, hfr12, _⟩ := hO1.at 12 (by omega)
  injection e1 with e1
  injection e1 with e1 _
  subst e1
  have hle := hO1.le
  have hO2 := hO1.put 8 (by omega) (at' t 8 &&& 127)
  have hO3 := hO2.put 12 (by omega) (at' t 12 &&& 127)
  rw [← hC.out] at hO3
  have hx3 : Ext w ((w1.setCell ⟨g, 8, none⟩ (.int .u8 (n8 (at' t 8 &&& 127)))).setCell ⟨g, 12, none⟩ (.int .u8 (n8 (at' t 12 &&& 127)))) := Ext.setCell (Ext.setCell hx1 hg _) hg _
  rw [show t.getD 8 0 = at' t 8 from rfl] at hcell8
  rw [show t.getD 12 0 = at' t 12 from rfl] at hcell12
  clear h12 hO1 hO2
  go_wp2_with fail
  (refine (stream_any _ _ _ _ _ _ n (ky.drop 16) (ctrOf t) l _ (hk2.ext hx3) (by omega) hO3.sl hle.1 (hl.ext hx3) hn).mono ?_; rintro e _ ⟨_, _, rfl, hS, hc, hx⟩)
  go_wp2_with fail
  go_ret2
  exact ⟨_, _, rfl, hS, hc, hx3.trans hx⟩
end Go.Proofs.Ytkjdlbjbppbmdaa

/- Layer 6 of the program: Tag, Seal, Open. -/
namespace Go.Proofs.Ytkjdlbjbppbmdaa
open Go.RowKit Go.Sec Go.Oct Go.Aes BigFrame

theorem ne0 {e : Int} (h : e ≠ 0) : (e != 0) = true := by rw [bne_iff_ne]; exact h

set_option maxRecDepth 100000 in
set_option maxHeartbeats 4000000 in
theorem tag_any (a b c : Option Addr) (n ca m cb k cc : Nat) (ky : List UInt8) (A : List (List UInt8)) (p : List UInt8) (w : World) (hk : Sl w a n ky) (hca : n ≤ ca) (hA : Bsc w b m A) (hm : m ≤ 1000000) (hp : Sl w c k p) (hkc : k ≤ cc) :
    Calls Try.prog 142 #[.slice a n ca, .slice b m cb, .slice c k cc] w (Read2 (tagE ky A p).1.length (tagE ky A p).1 (.int .i64 (tagE ky A p).2) w) := by
  have hc := fun w h1 h2 => check_any a b n ca m cb ky A w h1 h2 hm
  have hpl := hp.len
  by_cases h0 : checkA ky A = 0
  · rw [h0] at hc
    obtain ⟨h32, h16, hmx⟩ := checkA_ok h0
    rw [hk.len] at h32
    rw [hA.len] at h16
    subst h32
    by_cases hl : 65519 < k
    · have e : tagE ky A p = ([], 2) := by unfold tagE; rw [if_neg (by rw [h0]; simp), if_pos (by omega)]
      rw [e]
      have hI : (65519 : Int) < (k : Int) := by omega
      clear e h0 hmx hpl
      go_enter Try.func142, Try.ntmps142
      go_wp2_with (first | (go_at_call 146; (with_reducible refine (hc ?_ ?hq49 ?hq50).mono ?_); (case hq49 => (repeat' (first | with_reducible assumption | (with_reducible exact zeros16 _) | (with_reducible exact sl_new1 _ _ _) | (with_reducible first | apply Sl.upE | apply Sl.upA | apply Sl.upD)))); (case hq50 => (repeat' (first | with_reducible assumption | (refine bsc2 ?_ ?_ ?_ ?_ _; (· (repeat' (first | with_reducible assumption | (with_reducible exact zeros16 _) | (with_reducible exact sl_new1 _ _ _) | (with_reducible first | apply Sl.upE | apply Sl.upA | apply Sl.upD)))); (· omega); (· (repeat' (first | with_reducible assumption | (with_reducible exact zeros16 _) | (with_reducible exact sl_new1 _ _ _) | (with_reducible first | apply Sl.upE | apply Sl.upA | apply Sl.upD)))); (· omega)) | (with_reducible first | apply Bsc.upE | apply Bsc.upA | apply Bsc.upD)))); rintro e w1 ⟨rfl, hxq⟩; obtain ⟨xq, rfl⟩ := hxq.out; clear hxq) | fail)
      go_ret2
      exact read2_err _ _ _ (by repeat (first | (with_reducible first | exact Ext.refl _ | assumption | apply Ext.alloc | apply Ext.ext | apply Ext.drew | refine Ext.setCell ?_ ?_ _) | (focus (simp [go_sem]; done))))
    · rw [tagE_ok h0 (by omega)]
      show Calls _ _ _ _ (Read2 (s2v _ _).length _ _ _)
      rw [s2v_length]
      have hmax : ∀ x ∈ A ++ [p], x.length ≤ 65535 := by
        intro x hx
        rcases List.mem_append.1 hx with h | h
        · have := hmx x h; omega
        · simp only [List.mem_singleton] at h; subst h; omega
      have hI : decide ((65519 : Int) < (k : Int)) = false := by simp; omega
      have q : (16 : Int) ≤ (ca : Int) := by omega
      clear h0 hmx hpl
      go_enter Try.func142, Try.ntmps142
      go_wp2_with (first | (go_at_call 146; (with_reducible refine (hc ?_ ?hq51 ?hq52).mono ?_); (case hq51 => (repeat' (first | with_reducible assumption | (with_reducible exact zeros16 _) | (with_reducible exact sl_new1 _ _ _) | (with_reducible first | apply Sl.upE | apply Sl.upA | apply Sl.upD)))); (case hq52 => (repeat' (first | with_reducible assumption | (refine bsc2 ?_ ?_ ?_ ?_ _; (· (repeat' (first | with_reducible assumption | (with_reducible exact zeros16 _) | (with_reducible exact sl_new1 _ _ _) | (with_reducible first | apply Sl.upE | apply Sl.upA | apply Sl.upD)))); (· omega); (· (repeat' (first | with_reducible assumption | (with_reducible exact zeros16 _) | (with_reducible exact sl_new1 _ _ _) | (with_reducible first | apply Sl.upE | apply Sl.upA | apply Sl.upD)))); (· omega)) | (with_reducible first | apply Bsc.upE | apply Bsc.upA | apply Bsc.upD)))); rintro e w1 ⟨rfl, hxq⟩; obtain ⟨xq, rfl⟩ := hxq.out; clear hxq) | fail)
      have hxW : Ext w (w.ext xq) := (by repeat (first | (with_reducible first | exact Ext.refl _ | assumption | apply Ext.alloc | apply Ext.ext | apply Ext.drew | refine Ext.setCell ?_ ?_ _) | (focus (simp [go_sem]; done))))
      generalize w.ext xq = W at *
      have hkW := (hk.ext hxW).take 16 (by omega)
      have hRB := (hA.ext hxW).rdB
      have hpW := hp.ext hxW
      have hSE : ∀ w', Ext (W) w' → (Ext (W)) w' := (fun _ h => h); have hExt0 : Ext (W) (W).drew := Ext.drew (Ext.refl _); refine wp_region_held_drew (S := Ext (W)) (by kernel_rfl) (hSE _ hExt0) (fun hHeld => ?_)
      refine wpAnyH_take (i := 0) (v := ?v36) rfl (by kernel_rfl) (by kernel_rfl) (by kernel_rfl) (fun _ _ _ h => h) (Or.inl ⟨by rfl, ?hy36⟩) hHeld ?_; (case hy36 => (intro w' hx; simp [go_sem, execOp, *]; (try simp (disch := omega) only [Go.IntWalk.i64_in, Go.IntWalk.rem_in, Go.IntWalk.wrap64_in]); rfl)); (try simp only [List.getElem_toArray, List.getElem_cons_succ, List.getElem_cons_zero, Act.put, List.setIfInBounds_toArray, List.set_cons_succ, List.set_cons_zero])
      refine wpAnyH_take (i := 1) (v := ?v37) rfl (by kernel_rfl) (by kernel_rfl) (by kernel_rfl) (fun _ _ _ h => h) (Or.inl ⟨by rfl, ?hy37⟩) hHeld ?_; (case hy37 => (intro w' hx; simp [go_sem, execOp, *]; (try simp (disch := omega) only [Go.IntWalk.i64_in, Go.IntWalk.rem_in, Go.IntWalk.wrap64_in]); rfl)); (try simp only [List.getElem_toArray, List.getElem_cons_succ, List.getElem_cons_zero, Act.put, List.setIfInBounds_toArray, List.set_cons_succ, List.set_cons_zero])
      refine wpAnyH_take (i := 2) (v := ?v38) rfl (by kernel_rfl) (by kernel_rfl) (by kernel_rfl) (fun _ _ _ h => h) (Or.inl ⟨by rfl, ?hy38⟩) hHeld ?_; (case hy38 => (intro w' hx; simp [go_sem, execOp, *]; (try simp (disch := omega) only [Go.IntWalk.i64_in, Go.IntWalk.rem_in, Go.IntWalk.wrap64_in]); rfl)); (try simp only [List.getElem_toArray, List.getElem_cons_succ, List.getElem_cons_zero, Act.put, List.setIfInBounds_toArray, List.set_cons_succ, List.set_cons_zero])
      refine wpAnyH_take (i := 4) (v := ?v39) rfl (by kernel_rfl) (by kernel_rfl) (by kernel_rfl) (fun _ _ _ h => h) (Or.inl ⟨by rfl, ?hy39⟩) hHeld ?_; (case hy39 => (intro w' hx; simp [go_sem, execOp, *]; (try simp (disch := omega) only [Go.IntWalk.i64_in, Go.IntWalk.rem_in, Go.IntWalk.wrap64_in]); rfl)); (try simp only [List.getElem_toArray, List.getElem_cons_succ, List.getElem_cons_zero, Act.put, List.setIfInBounds_toArray, List.set_cons_succ, List.set_cons_zero])
      refine R5.any_late2 6 8 [[], [0], [], [2], [], [4], [2, 3, 4, 5], [0, 1, 2, 3, 4, 5, 6], [0, 1, 2, 3, 4, 5, 6, 7], [0, 1, 2, 3, 4, 5, 6, 7], [0, 1, 2, 3, 4, 5, 6, 7, 8, 9], [0, 1, 2, 3, 4, 5, 6, 7, 8, 9, 10]] [0, 1, 2, 4] #[true, true, true, true, true, true, true, true, false, false, false, false] 4 hExt0 hSE (by kernel_rfl) (by kernel_rfl) (by kernel_rfl) (by kernel_rfl) (by kernel_rfl) (by kernel_rfl) ?_; simp only [List.take_succ_cons, List.take_zero, List.drop_succ_cons, List.drop_zero, List.take_nil, List.drop_nil, Nat.reduceSub]
      refine R5.VD_taken rfl ?_
      refine R5.VD_taken rfl ?_
      refine R5.VD_taken rfl ?_
      (refine R5.VD_vag rfl (fun p => .slice (p 0).1 m (p 0).2) (fun p w'' => OwnB w'' W.heap.size (p 0).1 m (p 0).2 A) (fun p w w' h hx => h.ext hx) (fun us w' hx hf => ⟨rfl, ?_⟩) ?_; (unfold gives; simp [go_sem, execOp]; exact R5.vag_rows (cloneB_any W.heap.size _ _ _ _ _ (hRB.ext hx) hx.size (by omega))))
      refine R5.VD_taken rfl ?_
      (refine R5.VD_vag rfl (fun p => .slice (p 0).1 1 1) (fun p w'' => Rd w'' (p 0).1 [.slice c k cc]) (fun p w w' h hx => h.ext hx) (fun us w' hx hf => ⟨rfl, ?_⟩) ?_; (unfold gives; simp [go_sem, execOp]; exact ⟨fun _ => (some ⟨w'.heap.size, 0, none⟩, 0), rfl, Ext.of_alloc _ _, (Blk.new _ _ _).rd⟩))
      (refine R5.VD_nil ?_; intro us w' hx hf; obtain ⟨x, rfl⟩ := hx.out; (try simp only [Act.put, List.setIfInBounds_toArray, List.set_cons_succ, List.set_cons_zero, wpList_none]); (try simp only [List.mem_cons, List.not_mem_nil, or_false, forall_eq_or_imp, forall_eq, List.nil_append, List.cons_append, List.mem_append, false_or, true_and, and_true] at hf); (try simp only [Nat.reduceAdd, Nat.zero_add] at hf); (try simp only [Nat.reduceAdd, Nat.zero_add]))
      obtain ⟨hO1, hR2⟩ := hf
      (refine R5.chain_append_bs hSE V8 rfl rfl _ _ rfl (W.heap.size) _ m _ (A) rfl _ 1 1 ([p]) rfl (hO1) (RdB.one hR2 (hpW.ext hx) hkc (hpW.inB _)) (by omega) (hx.size) (Nat.le_refl _) (hx) ?_; intro sa2 sc2 w2 hOa hg2 hB2 hx2)
      have hBs := hOa.bsc
      have hle := hOa.le
      have hk2 := hkW.ext hx2
      (refine R5.chain_cons rfl rfl ?_; unfold gives; simp [go_sem, execOp]; (with_reducible refine (vector_any ?_ ?_ ?_ ?_ ?_ (ky.take 16) (A ++ [p]) ?_ ?hq44 ?hq45 ?hq46 ?hq47 ?hq48 hmax).mono ?_); (case hq44 => (repeat' (first | with_reducible assumption | (with_reducible exact zeros16 _) | (with_reducible exact sl_new1 _ _ _) | (with_reducible first | apply Sl.upE | apply Sl.upA | apply Sl.upD)))); (case hq46 => (repeat' (first | with_reducible assumption | (refine bsc2 ?_ ?_ ?_ ?_ _; (· (repeat' (first | with_reducible assumption | (with_reducible exact zeros16 _) | (with_reducible exact sl_new1 _ _ _) | (with_reducible first | apply Sl.upE | apply Sl.upA | apply Sl.upD)))); (· omega); (· (repeat' (first | with_reducible assumption | (with_reducible exact zeros16 _) | (with_reducible exact sl_new1 _ _ _) | (with_reducible first | apply Sl.upE | apply Sl.upA | apply Sl.upD)))); (· omega)) | (with_reducible first | apply Bsc.upE | apply Bsc.upA | apply Bsc.upD)))); (case hq45 => omega); (case hq47 => omega); (case hq48 => omega); rintro e _ ⟨_, _, rfl, hS, hc, hx⟩; obtain ⟨_, rfl⟩ := hx.out; clear hx; refine ⟨_, rfl, hSE _ (by repeat (first | (with_reducible first | exact Ext.refl _ | assumption | apply Ext.alloc | apply Ext.ext | apply Ext.drew | refine Ext.setCell ?_ ?_ _) | (focus (simp [go_sem]; done)))), ?_⟩; (try simp only [List.getElem_toArray, List.getElem_cons_succ, List.getElem_cons_zero, Act.put, List.setIfInBounds_toArray, List.set_cons_succ, List.set_cons_zero]))
      (refine R5.chain_nil ?_)
      refine wpAnyH_take (i := 8) (v := ?v40) rfl (by kernel_rfl) (by kernel_rfl) (by kernel_rfl) (fun _ _ _ h => h) (Or.inl ⟨by rfl, ?hy40⟩) (hSE _ (by repeat (first | (with_reducible first | exact Ext.refl _ | assumption | apply Ext.alloc | apply Ext.ext | apply Ext.drew | refine Ext.setCell ?_ ?_ _) | (focus (simp [go_sem]; done))))) ?_; (case hy40 => (intro w' hx; simp [go_sem, execOp, *]; (try simp (disch := omega) only [Go.IntWalk.i64_in, Go.IntWalk.rem_in, Go.IntWalk.wrap64_in]); rfl)); (try simp only [List.getElem_toArray, List.getElem_cons_succ, List.getElem_cons_zero, Act.put, List.setIfInBounds_toArray, List.set_cons_succ, List.set_cons_zero])
      refine wpAnyH_take (i := 9) (v := ?v41) rfl (by kernel_rfl) (by kernel_rfl) (by kernel_rfl) (fun _ _ _ h => h) (Or.inl ⟨by rfl, ?hy41⟩) (hSE _ (by repeat (first | (with_reducible first | exact Ext.refl _ | assumption | apply Ext.alloc | apply Ext.ext | apply Ext.drew | refine Ext.setCell ?_ ?_ _) | (focus (simp [go_sem]; done))))) ?_; (case hy41 => (intro w' hx; simp [go_sem, execOp, *]; (try simp (disch := omega) only [Go.IntWalk.i64_in, Go.IntWalk.rem_in, Go.IntWalk.wrap64_in]); rfl)); (try simp only [List.getElem_toArray, List.getElem_cons_succ, List.getElem_cons_zero, Act.put, List.setIfInBounds_toArray, List.set_cons_succ, List.set_cons_zero])
      refine wpAnyH_take (i := 10) (v := ?v42) rfl (by kernel_rfl) (by kernel_rfl) (by kernel_rfl) (fun _ _ _ h => h) (Or.inl ⟨by rfl, ?hy42⟩) (hSE _ (by repeat (first | (with_reducible first | exact Ext.refl _ | assumption | apply Ext.alloc | apply Ext.ext | apply Ext.drew | refine Ext.setCell ?_ ?_ _) | (focus (simp [go_sem]; done))))) ?_; (case hy42 => (intro w' hx; simp [go_sem, execOp, *]; (try simp (disch := omega) only [Go.IntWalk.i64_in, Go.IntWalk.rem_in, Go.IntWalk.wrap64_in]); rfl)); (try simp only [List.getElem_toArray, List.getElem_cons_succ, List.getElem_cons_zero, Act.put, List.setIfInBounds_toArray, List.set_cons_succ, List.set_cons_zero])
      refine wpAnyH_take (i := 11) (v := ?v43) rfl (by kernel_rfl) (by kernel_rfl) (by kernel_rfl) (fun _ _ _ h => h) (Or.inl ⟨by rfl, ?hy43⟩) (hSE _ (by repeat (first | (with_reducible first | exact Ext.refl _ | assumption | apply Ext.alloc | apply Ext.ext | apply Ext.drew | refine Ext.setCell ?_ ?_ _) | (focus (simp [go_sem]; done))))) ?_; (case hy43 => (intro w' hx; simp [go_sem, execOp, *]; (try simp (disch := omega) only [Go.IntWalk.i64_in, Go.IntWalk.rem_in, Go.IntWalk.wrap64_in]); rfl)); (try simp only [List.getElem_toArray, List.getElem_cons_succ, List.getElem_cons_zero, Act.put, List.setIfInBounds_toArray, List.set_cons_succ, List.set_cons_zero])
      refine wpAnyH_done (by kernel_rfl) ?_ _
      go_wp2
      go_ret2
      exact ⟨_, _, rfl, hS, hc, hxW.trans (by repeat (first | (with_reducible first | exact Ext.refl _ | assumption | apply Ext.alloc | apply Ext.ext | apply Ext.drew | refine Ext.setCell ?_ ?_ _) | (focus (simp [go_sem]; done))))⟩
  · have e : tagE ky A p = ([], checkA ky A) := by unfold tagE; rw [if_pos h0]
    rw [e]
    have hI := ne0 h0
    generalize checkA ky A = v at *
    clear e h0
    go_enter Try.func142, Try.ntmps142
    go_wp2_with (first | (go_at_call 146; (with_reducible refine (hc ?_ ?hq53 ?hq54).mono ?_); (case hq53 => (repeat' (first | with_reducible assumption | (with_reducible exact zeros16 _) | (with_reducible exact sl_new1 _ _ _) | (with_reducible first | apply Sl.upE | apply Sl.upA | apply Sl.upD)))); (case hq54 => (repeat' (first | with_reducible assumption | (refine bsc2 ?_ ?_ ?_ ?_ _; (· (repeat' (first | with_reducible assumption | (with_reducible exact zeros16 _) | (with_reducible exact sl_new1 _ _ _) | (with_reducible first | apply Sl.upE | apply Sl.upA | apply Sl.upD)))); (· omega); (· (repeat' (first | with_reducible assumption | (with_reducible exact zeros16 _) | (with_reducible exact sl_new1 _ _ _) | (with_reducible first | apply Sl.upE | apply Sl.upA | apply Sl.upD)))); (· omega)) | (with_reducible first | apply Bsc.upE | apply Bsc.upA | apply Bsc.upD)))); rintro e w1 ⟨rfl, hxq⟩; obtain ⟨xq, rfl⟩ := hxq.out; clear hxq) | fail)
    go_ret2
    exact read2_err _ _ _ (by repeat (first | (with_reducible first | exact Ext.refl _ | assumption | apply Ext.alloc | apply Ext.ext | apply Ext.drew | refine Ext.setCell ?_ ?_ _) | (focus (simp [go_sem]; done))))

set_option maxRecDepth 100000 in
set_option maxHeartbeats 4000000 in
theorem seal_any (a b c : Option Addr) (n ca m cb k cc : Nat) (ky : List UInt8) (A : List (List UInt8)) (p : List UInt8) (w : World) (hk : Sl w a n ky) (hca : n ≤ ca) (hA : Bsc w b m A) (hm : m ≤ 1000000) (hp : Sl w c k p) (hkc : k ≤ cc) :
    Calls Try.prog 83 #[.slice a n ca, .slice b m cb, .slice c k cc] w (Read2 (sealE ky A p).1.length (sealE ky A p).1 (.int .i64 (sealE ky A p).2) w) := by
  have ht := fun w h1 h3 h5 => tag_any a b c n ca m cb k cc ky A p w h1 hca h3 hm h5 hkc
  by_cases h0 : (tagE ky A p).2 = 0
  · obtain ⟨h16, hck, hpl⟩ := tagE_len h0
    obtain ⟨h32, _, _⟩ := checkA_ok hck
    rw [hk.len] at h32
    rw [hp.len] at hpl
    subst h32
    have e := Lib.hid (show sealE ky A p = ((tagE ky A p).1 ++ stream (ky.drop 16) (ctrOf (tagE ky A p).1) p, 0) by unfold sealE; rw [if_neg (by simpa using h0)])
    rw [h0, h16] at ht
    have hsl := stream_length (ky.drop 16) (ctrOf (tagE ky A p).1) p
    rw [hp.len] at hsl
    have hst := fun a1 c1 w h1 h2 h3 h4 => astream_any a a1 c ca c1 cc k ky (tagE ky A p).1 p w h1 h2 h3 h4 (by omega)
    generalize stream (ky.drop 16) (ctrOf (tagE ky A p).1) p = st at *
    generalize (tagE ky A p).1 = tg at *
    rw [e.out]
    have hll : (tg ++ st).length = 16 + k := by rw [List.length_append, h16, hsl]
    show Calls _ _ _ _ (Read2 (tg ++ st).length _ _ _)
    rw [hll]
    clear h0 hck
    have hj : joinL [tg, st] = tg ++ st := by simp [joinL]
    have hjl : (joinL [tg, st]).length = 16 + k := by rw [hj, hll]
    have HJ := Lib.hid hj
    clear hj
    go_enter Try.func83, Try.ntmps83
    go_wp2_with (first
      | (go_at_call 142; (with_reducible refine (ht ?_ ?hq55 ?hq56 ?hq57).mono ?_); (case hq55 => (repeat' (first | with_reducible assumption | (with_reducible exact zeros16 _) | (with_reducible exact sl_new1 _ _ _) | (with_reducible first | apply Sl.upE | apply Sl.upA | apply Sl.upD)))); (case hq56 => (repeat' (first | with_reducible assumption | (refine bsc2 ?_ ?_ ?_ ?_ _; (· (repeat' (first | with_reducible assumption | (with_reducible exact zeros16 _) | (with_reducible exact sl_new1 _ _ _) | (with_reducible first | apply Sl.upE | apply Sl.upA | apply Sl.upD)))); (· omega); (· (repeat' (first | with_reducible assumption | (with_reducible exact zeros16 _) | (with_reducible exact sl_new1 _ _ _) | (with_reducible first | apply Sl.upE | apply Sl.upA | apply Sl.upD)))); (· omega)) | (with_reducible first | apply Bsc.upE | apply Bsc.upA | apply Bsc.upD)))); (case hq57 => (repeat' (first | with_reducible assumption | (with_reducible exact zeros16 _) | (with_reducible exact sl_new1 _ _ _) | (with_reducible first | apply Sl.upE | apply Sl.upA | apply Sl.upD)))); rintro e _ ⟨_, _, rfl, hS, hc, hx⟩; obtain ⟨_, rfl⟩ := hx.out; clear hx)
      | (go_at_call 143; (with_reducible refine (hst ?_ ?_ ?_ ?hq58 ?hq59 ?hq60 ?hq61).mono ?_); (case hq58 => (repeat' (first | with_reducible assumption | (with_reducible exact zeros16 _) | (with_reducible exact sl_new1 _ _ _) | (with_reducible first | apply Sl.upE | apply Sl.upA | apply Sl.upD)))); (case hq60 => (repeat' (first | with_reducible assumption | (with_reducible exact zeros16 _) | (with_reducible exact sl_new1 _ _ _) | (with_reducible first | apply Sl.upE | apply Sl.upA | apply Sl.upD)))); (case hq61 => (repeat' (first | with_reducible assumption | (with_reducible exact zeros16 _) | (with_reducible exact sl_new1 _ _ _) | (with_reducible first | apply Sl.upE | apply Sl.upA | apply Sl.upD)))); (case hq59 => omega); rintro e _ ⟨_, _, rfl, hS, hc, hx⟩; obtain ⟨_, rfl⟩ := hx.out; clear hx)
      | fail)
    (with_reducible refine (ojoin_any _ _ _ [tg, st] _ (bss2 ?h1 ?h2 _) (by omega) (16 + k) hjl (by omega)).mono ?_)
    case h1 => exact (by (repeat' (first | with_reducible assumption | (with_reducible exact zeros16 _) | (with_reducible exact sl_new1 _ _ _) | (with_reducible first | apply Sl.upE | apply Sl.upA | apply Sl.upD))))
    case h2 => exact (by (repeat' (first | with_reducible assumption | (with_reducible exact zeros16 _) | (with_reducible exact sl_new1 _ _ _) | (with_reducible first | apply Sl.upE | apply Sl.upA | apply Sl.upD))))
    rintro e _ ⟨_, _, rfl, hO, hx⟩
    obtain ⟨_, rfl⟩ := hx.out
    clear hx
    go_wp2
    rw [HJ.out] at hO
    go_ret2
    exact ⟨_, _, rfl, hO.sl, hO.le.1, (by repeat (first | (with_reducible first | exact Ext.refl _ | assumption | apply Ext.alloc | apply Ext.ext | apply Ext.drew | refine Ext.setCell ?_ ?_ _) | (focus (simp [go_sem]; done))))⟩
  · have e : sealE ky A p = ([], (tagE ky A p).2) := by unfold sealE; rw [if_pos h0]
    rw [e]
    have hI := ne0 h0
    generalize (tagE ky A p).2 = v at *
    generalize (tagE ky A p).1 = tg at *
    clear e h0
    go_enter Try.func83, Try.ntmps83
    go_wp2_with (first | (go_at_call 142; (with_reducible refine (ht ?_ ?hq62 ?hq63 ?hq64).mono ?_); (case hq62 => (repeat' (first | with_reducible assumption | (with_reducible exact zeros16 _) | (with_reducible exact sl_new1 _ _ _) | (with_reducible first | apply Sl.upE | apply Sl.upA | apply Sl.upD)))); (case hq63 => (repeat' (first | with_reducible assumption | (refine bsc2 ?_ ?_ ?_ ?_ _; (· (repeat' (first | with_reducible assumption | (with_reducible exact zeros16 _) | (with_reducible exact sl_new1 _ _ _) | (with_reducible first | apply Sl.upE | apply Sl.upA | apply Sl.upD)))); (· omega); (· (repeat' (first | with_reducible assumption | (with_reducible exact zeros16 _) | (with_reducible exact sl_new1 _ _ _) | (with_reducible first | apply Sl.upE | apply Sl.upA | apply Sl.upD)))); (· omega)) | (with_reducible first | apply Bsc.upE | apply Bsc.upA | apply Bsc.upD)))); (case hq64 => (repeat' (first | with_reducible assumption | (with_reducible exact zeros16 _) | (with_reducible exact sl_new1 _ _ _) | (with_reducible first | apply Sl.upE | apply Sl.upA | apply Sl.upD)))); rintro e _ ⟨_, _, rfl, hS, hc, hx⟩; obtain ⟨_, rfl⟩ := hx.out; clear hx) | fail)
    go_ret2
    exact read2_err _ _ _ (by repeat (first | (with_reducible first | exact Ext.refl _ | assumption | apply Ext.alloc | apply Ext.ext | apply Ext.drew | refine Ext.setCell ?_ ?_ _) | (focus (simp [go_sem]; done))))

set_option maxRecDepth 100000 in
set_option maxHeartbeats 4000000 in
theorem open_any (a b c : Option Addr) (n ca m cb k cc : Nat) (ky : List UInt8) (A : List (List UInt8)) (s : List UInt8) (w : World) (hk : Sl w a n ky) (hca : n ≤ ca) (hA : Bsc w b m A) (hm : m ≤ 1000000) (hs : Sl w c k s) (hkc : k ≤ cc) :
    Calls Try.prog 91 #[.slice a n ca, .slice b m cb, .slice c k cc] w (Read2 (openE ky A s).1.length (openE ky A s).1 (.int .i64 (openE ky A s).2) w) := by
  have hc := fun w h1 h2 => check_any a b n ca m cb ky A w h1 h2 hm
  have hsl := hs.len
  by_cases h0 : checkA ky A = 0
  · obtain ⟨h32, _, _⟩ := checkA_ok h0
    rw [hk.len] at h32
    subst h32
    by_cases hl : 65535 < k
    · have e : openE ky A s = ([], 2) := by unfold openE; rw [if_neg (by rw [h0]; simp), if_pos (by omega)]
      rw [e]
      rw [h0] at hc
      have hI : (65535 : Int) < (k : Int) := by omega
      clear e h0 hsl
      go_enter Try.func91, Try.ntmps91
      go_wp2_with (first | (go_at_call 146; (with_reducible refine (hc ?_ ?hq81 ?hq82).mono ?_); (case hq81 => (repeat' (first | with_reducible assumption | (with_reducible exact zeros16 _) | (with_reducible exact sl_new1 _ _ _) | (with_reducible first | apply Sl.upE | apply Sl.upA | apply Sl.upD)))); (case hq82 => (repeat' (first | with_reducible assumption | (refine bsc2 ?_ ?_ ?_ ?_ _; (· (repeat' (first | with_reducible assumption | (with_reducible exact zeros16 _) | (with_reducible exact sl_new1 _ _ _) | (with_reducible first | apply Sl.upE | apply Sl.upA | apply Sl.upD)))); (· omega); (· (repeat' (first | with_reducible assumption | (with_reducible exact zeros16 _) | (with_reducible exact sl_new1 _ _ _) | (with_reducible first | apply Sl.upE | apply Sl.upA | apply Sl.upD)))); (· omega)) | (with_reducible first | apply Bsc.upE | apply Bsc.upA | apply Bsc.upD)))); rintro e w1 ⟨rfl, hxq⟩; obtain ⟨xq, rfl⟩ := hxq.out; clear hxq) | fail)
      go_ret2
      exact read2_err _ _ _ (by repeat (first | (with_reducible first | exact Ext.refl _ | assumption | apply Ext.alloc | apply Ext.ext | apply Ext.drew | refine Ext.setCell ?_ ?_ _) | (focus (simp [go_sem]; done))))
    · by_cases h16 : k < 16
      · have e : openE ky A s = ([], 1) := by unfold openE; rw [if_neg (by rw [h0]; simp), if_neg (by omega), if_pos (by omega)]
        rw [e]
        rw [h0] at hc
        have hI : ¬ (65535 : Int) < (k : Int) := by omega
        have hcut := fun w => cut_no c k cc 16 w (.inr (by omega))
        clear e h0 hsl
        go_enter Try.func91, Try.ntmps91
        go_wp2_with (first | (go_at_call 146; (with_reducible refine (hc ?_ ?hq83 ?hq84).mono ?_); (case hq83 => (repeat' (first | with_reducible assumption | (with_reducible exact zeros16 _) | (with_reducible exact sl_new1 _ _ _) | (with_reducible first | apply Sl.upE | apply Sl.upA | apply Sl.upD)))); (case hq84 => (repeat' (first | with_reducible assumption | (refine bsc2 ?_ ?_ ?_ ?_ _; (· (repeat' (first | with_reducible assumption | (with_reducible exact zeros16 _) | (with_reducible exact sl_new1 _ _ _) | (with_reducible first | apply Sl.upE | apply Sl.upA | apply Sl.upD)))); (· omega); (· (repeat' (first | with_reducible assumption | (with_reducible exact zeros16 _) | (with_reducible exact sl_new1 _ _ _) | (with_reducible first | apply Sl.upE | apply Sl.upA | apply Sl.upD)))); (· omega)) | (with_reducible first | apply Bsc.upE | apply Bsc.upA | apply Bsc.upD)))); rintro e w1 ⟨rfl, hxq⟩; obtain ⟨xq, rfl⟩ := hxq.out; clear hxq) | (go_at_call 89; refine (hcut _).mono ?_; rintro e w1 ⟨rfl, hxq⟩; obtain ⟨xq, rfl⟩ := hxq.out; clear hxq) | fail)
        go_ret2
        exact read2_err _ _ _ (by repeat (first | (with_reducible first | exact Ext.refl _ | assumption | apply Ext.alloc | apply Ext.ext | apply Ext.drew | refine Ext.setCell ?_ ?_ _) | (focus (simp [go_sem]; done))))
      · have e := Lib.hid (show openE ky A s = if (tagE ky A (plainOf ky s)).1 = s.take 16 then (plainOf ky s, 0) else ([], 6) by unfold openE; rw [if_neg (by rw [h0]; simp), if_neg (by omega), if_neg (by omega)])
        have htg : tagE ky A (plainOf ky s) = (s2v (ky.take 16) (A ++ [plainOf ky s]), 0) := tagE_ok h0 (by rw [plainOf_length]; omega)
        have ht := fun c cc w h1 h3 h5 h6 => tag_any a b c 32 ca m cb (k - 16) cc ky A (plainOf ky s) w h1 hca h3 hm h5 h6
        have hts : (s.take 16).length = 16 := by simp; omega
        have hpo : plainOf ky s = stream (ky.drop 16) (ctrOf (s.take 16)) (s.drop 16) := rfl
        have hst := fun a1 c1 a2 c2 w h1 h2 h3 h4 => astream_any a a1 a2 ca c1 c2 (k - 16) ky (s.take 16) (s.drop 16) w h1 h2 h3 h4 (by omega)
        rw [← hpo] at hst
        rw [htg] at ht
        rw [htg] at e
        have hpl : (plainOf ky s).length = k - 16 := by rw [plainOf_length]; omega
        have htl := s2v_length (ky.take 16) (A ++ [plainOf ky s])
        rw [h0] at hc
        have hI : ¬ (65535 : Int) < (k : Int) := by omega
        have hcut := fun w h => cut_ok c k cc s 16 w h (by omega) (by omega) hkc
        simp only [Int.cast_ofNat_Int] at hcut
        simp only at ht e
        rw [htl] at ht
        generalize s2v (ky.take 16) (A ++ [plainOf ky s]) = tg at *
        generalize plainOf ky s = pl at *
        generalize s.take 16 = s0 at *
        generalize s.drop 16 = s1 at *
        clear htg h0 hpo hsl
        rw [e.out]
        by_cases he : tg = s0
        · rw [if_pos he]
          show Calls _ _ _ _ (Read2 pl.length _ _ _)
          rw [hpl]
          have hb : (tg == s0) = true := by simpa using he
          clear he
          clear e
          go_enter Try.func91, Try.ntmps91
          go_wp2_with (first | (go_at_call 146; (with_reducible refine (hc ?_ ?hq85 ?hq86).mono ?_); (case hq85 => (repeat' (first | with_reducible assumption | (with_reducible exact zeros16 _) | (with_reducible exact sl_new1 _ _ _) | (with_reducible first | apply Sl.upE | apply Sl.upA | apply Sl.upD)))); (case hq86 => (repeat' (first | with_reducible assumption | (refine bsc2 ?_ ?_ ?_ ?_ _; (· (repeat' (first | with_reducible assumption | (with_reducible exact zeros16 _) | (with_reducible exact sl_new1 _ _ _) | (with_reducible first | apply Sl.upE | apply Sl.upA | apply Sl.upD)))); (· omega); (· (repeat' (first | with_reducible assumption | (with_reducible exact zeros16 _) | (with_reducible exact sl_new1 _ _ _) | (with_reducible first | apply Sl.upE | apply Sl.upA | apply Sl.upD)))); (· omega)) | (with_reducible first | apply Bsc.upE | apply Bsc.upA | apply Bsc.upD)))); rintro e w1 ⟨rfl, hxq⟩; obtain ⟨xq, rfl⟩ := hxq.out; clear hxq) | fail)
          refine (hcut _ (by (repeat' (first | with_reducible assumption | (with_reducible exact zeros16 _) | (with_reducible exact sl_new1 _ _ _) | (with_reducible first | apply Sl.upE | apply Sl.upA | apply Sl.upD))))).mono ?_
          rintro e _ ⟨_, _, _, _, rfl, hO1, hO2, hx⟩
          obtain ⟨_, rfl⟩ := hx.out
          have hl1 := hO1.le
          have hl2 := hO2.le
          have hS1 := hO1.sl
          have hS2 := hO2.sl
          clear hO1 hO2 hx
          go_wp2_with (first
            | (go_at_call 143; (with_reducible refine (hst ?_ ?_ ?_ ?_ ?_ ?hq65 ?hq66 ?hq67 ?hq68).mono ?_); (case hq65 => (repeat' (first | with_reducible assumption | (with_reducible exact zeros16 _) | (with_reducible exact sl_new1 _ _ _) | (with_reducible first | apply Sl.upE | apply Sl.upA | apply Sl.upD)))); (case hq67 => (repeat' (first | with_reducible assumption | (with_reducible exact zeros16 _) | (with_reducible exact sl_new1 _ _ _) | (with_reducible first | apply Sl.upE | apply Sl.upA | apply Sl.upD)))); (case hq68 => (repeat' (first | with_reducible assumption | (with_reducible exact zeros16 _) | (with_reducible exact sl_new1 _ _ _) | (with_reducible first | apply Sl.upE | apply Sl.upA | apply Sl.upD)))); (case hq66 => omega); rintro e _ ⟨_, _, rfl, hS, hc, hx⟩; obtain ⟨_, rfl⟩ := hx.out; clear hx)
            | (go_at_call 142; (with_reducible refine (ht ?_ ?_ ?_ ?hq69 ?hq70 ?hq71 ?hq72).mono ?_); (case hq69 => (repeat' (first | with_reducible assumption | (with_reducible exact zeros16 _) | (with_reducible exact sl_new1 _ _ _) | (with_reducible first | apply Sl.upE | apply Sl.upA | apply Sl.upD)))); (case hq70 => (repeat' (first | with_reducible assumption | (refine bsc2 ?_ ?_ ?_ ?_ _; (· (repeat' (first | with_reducible assumption | (with_reducible exact zeros16 _) | (with_reducible exact sl_new1 _ _ _) | (with_reducible first | apply Sl.upE | apply Sl.upA | apply Sl.upD)))); (· omega); (· (repeat' (first | with_reducible assumption | (with_reducible exact zeros16 _) | (with_reducible exact sl_new1 _ _ _) | (with_reducible first | apply Sl.upE | apply Sl.upA | apply Sl.upD)))); (· omega)) | (with_reducible first | apply Bsc.upE | apply Bsc.upA | apply Bsc.upD)))); (case hq71 => (repeat' (first | with_reducible assumption | (with_reducible exact zeros16 _) | (with_reducible exact sl_new1 _ _ _) | (with_reducible first | apply Sl.upE | apply Sl.upA | apply Sl.upD)))); (case hq72 => omega); rintro e _ ⟨_, _, rfl, hS, hc, hx⟩; obtain ⟨_, rfl⟩ := hx.out; clear hx)
            | (go_at_call 114; (with_reducible refine (osame_any ?_ ?_ ?_ ?_ ?_ ?_ tg s0 ?_ ?hq87 ?hq88).mono ?_); (case hq87 => (repeat' (first | with_reducible assumption | (with_reducible exact zeros16 _) | (with_reducible exact sl_new1 _ _ _) | (with_reducible first | apply Sl.upE | apply Sl.upA | apply Sl.upD)))); (case hq88 => (repeat' (first | with_reducible assumption | (with_reducible exact zeros16 _) | (with_reducible exact sl_new1 _ _ _) | (with_reducible first | apply Sl.upE | apply Sl.upA | apply Sl.upD)))); rintro e w1 ⟨rfl, hxq⟩; obtain ⟨xq, rfl⟩ := hxq.out; clear hxq)
            | fail)
          go_ret2
          exact ⟨_, _, rfl, (by (repeat' (first | with_reducible assumption | (with_reducible exact zeros16 _) | (with_reducible exact sl_new1 _ _ _) | (with_reducible first | apply Sl.upE | apply Sl.upA | apply Sl.upD)))), by omega, (by repeat (first | (with_reducible first | exact Ext.refl _ | assumption | apply Ext.alloc | apply Ext.ext | apply Ext.drew | refine Ext.setCell ?_ ?_ _) | (focus (simp [go_sem]; done))))⟩
        · rw [if_neg he]
          have hb : (tg == s0) = false := by simpa using he
          clear he
          clear e
          go_enter Try.func91, Try.ntmps91
          go_wp2_with (first | (go_at_call 146; (with_reducible refine (hc ?_ ?hq89 ?hq90).mono ?_); (case hq89 => (repeat' (first | with_reducible assumption | (with_reducible exact zeros16 _) | (with_reducible exact sl_new1 _ _ _) | (with_reducible first | apply Sl.upE | apply Sl.upA | apply Sl.upD)))); (case hq90 => (repeat' (first | with_reducible assumption | (refine bsc2 ?_ ?_ ?_ ?_ _; (· (repeat' (first | with_reducible assumption | (with_reducible exact zeros16 _) | (with_reducible exact sl_new1 _ _ _) | (with_reducible first | apply Sl.upE | apply Sl.upA | apply Sl.upD)))); (· omega); (· (repeat' (first | with_reducible assumption | (with_reducible exact zeros16 _) | (with_reducible exact sl_new1 _ _ _) | (with_reducible first | apply Sl.upE | apply Sl.upA | apply Sl.upD)))); (· omega)) | (with_reducible first | apply Bsc.upE | apply Bsc.upA | apply Bsc.upD)))); rintro e w1 ⟨rfl, hxq⟩; obtain ⟨xq, rfl⟩ := hxq.out; clear hxq) | fail)
          refine (hcut _ (by (repeat' (first | with_reducible assumption | (with_reducible exact zeros16 _) | (with_reducible exact sl_new1 _ _ _) | (with_reducible first | apply Sl.upE | apply Sl.upA | apply Sl.upD))))).mono ?_
          rintro e _ ⟨_, _, _, _, rfl, hO1, hO2, hx⟩
          obtain ⟨_, rfl⟩ := hx.out
          have hl1 := hO1.le
          have hl2 := hO2.le
          have hS1 := hO1.sl
          have hS2 := hO2.sl
          clear hO1 hO2 hx
          go_wp2_with (first
            | (go_at_call 143; (with_reducible refine (hst ?_ ?_ ?_ ?_ ?_ ?hq73 ?hq74 ?hq75 ?hq76).mono ?_); (case hq73 => (repeat' (first | with_reducible assumption | (with_reducible exact zeros16 _) | (with_reducible exact sl_new1 _ _ _) | (with_reducible first | apply Sl.upE | apply Sl.upA | apply Sl.upD)))); (case hq75 => (repeat' (first | with_reducible assumption | (with_reducible exact zeros16 _) | (with_reducible exact sl_new1 _ _ _) | (with_reducible first | apply Sl.upE | apply Sl.upA | apply Sl.upD)))); (case hq76 => (repeat' (first | with_reducible assumption | (with_reducible exact zeros16 _) | (with_reducible exact sl_new1 _ _ _) | (with_reducible first | apply Sl.upE | apply Sl.upA | apply Sl.upD)))); (case hq74 => omega); rintro e _ ⟨_, _, rfl, hS, hc, hx⟩; obtain ⟨_, rfl⟩ := hx.out; clear hx)
            | (go_at_call 142; (with_reducible refine (ht ?_ ?_ ?_ ?hq77 ?hq78 ?hq79 ?hq80).mono ?_); (case hq77 => (repeat' (first | with_reducible assumption | (with_reducible exact zeros16 _) | (with_reducible exact sl_new1 _ _ _) | (with_reducible first | apply Sl.upE | apply Sl.upA | apply Sl.upD)))); (case hq78 => (repeat' (first | with_reducible assumption | (refine bsc2 ?_ ?_ ?_ ?_ _; (· (repeat' (first | with_reducible assumption | (with_reducible exact zeros16 _) | (with_reducible exact sl_new1 _ _ _) | (with_reducible first | apply Sl.upE | apply Sl.upA | apply Sl.upD)))); (· omega); (· (repeat' (first | with_reducible assumption | (with_reducible exact zeros16 _) | (with_reducible exact sl_new1 _ _ _) | (with_reducible first | apply Sl.upE | apply Sl.upA | apply Sl.upD)))); (· omega)) | (with_reducible first | apply Bsc.upE | apply Bsc.upA | apply Bsc.upD)))); (case hq79 => (repeat' (first | with_reducible assumption | (with_reducible exact zeros16 _) | (with_reducible exact sl_new1 _ _ _) | (with_reducible first | apply Sl.upE | apply Sl.upA | apply Sl.upD)))); (case hq80 => omega); rintro e _ ⟨_, _, rfl, hS, hc, hx⟩; obtain ⟨_, rfl⟩ := hx.out; clear hx)
            | (go_at_call 114; (with_reducible refine (osame_any ?_ ?_ ?_ ?_ ?_ ?_ tg s0 ?_ ?hq91 ?hq92).mono ?_); (case hq91 => (repeat' (first | with_reducible assumption | (with_reducible exact zeros16 _) | (with_reducible exact sl_new1 _ _ _) | (with_reducible first | apply Sl.upE | apply Sl.upA | apply Sl.upD)))); (case hq92 => (repeat' (first | with_reducible assumption | (with_reducible exact zeros16 _) | (with_reducible exact sl_new1 _ _ _) | (with_reducible first | apply Sl.upE | apply Sl.upA | apply Sl.upD)))); rintro e w1 ⟨rfl, hxq⟩; obtain ⟨xq, rfl⟩ := hxq.out; clear hxq)
            | fail)
          go_ret2
          exact read2_err _ _ _ (by repeat (first | (with_reducible first | exact Ext.refl _ | assumption | apply Ext.alloc | apply Ext.ext | apply Ext.drew | refine Ext.setCell ?_ ?_ _) | (focus (simp [go_sem]; done))))
  · have e : openE ky A s = ([], checkA ky A) := by unfold openE; rw [if_pos h0]
    rw [e]
    have hI := ne0 h0
    generalize checkA ky A = v at *
    clear e h0
    go_enter Try.func91, Try.ntmps91
    go_wp2_with (first | (go_at_call 146; (with_reducible refine (hc ?_ ?hq93 ?hq94).mono ?_); (case hq93 => (repeat' (first | with_reducible assumption | (with_reducible exact zeros16 _) | (with_reducible exact sl_new1 _ _ _) | (with_reducible first | apply Sl.upE | apply Sl.upA | apply Sl.upD)))); (case hq94 => (repeat' (first | with_reducible assumption | (refine bsc2 ?_ ?_ ?_ ?_ _; (· (repeat' (first | with_reducible assumption | (with_reducible exact zeros16 _) | (with_reducible exact sl_new1 _ _ _) | (with_reducible first | apply Sl.upE | apply Sl.upA | apply Sl.upD)))); (· omega); (· (repeat' (first | with_reducible assumption | (with_reducible exact zeros16 _) | (with_reducible exact sl_new1 _ _ _) | (with_reducible first | apply Sl.upE | apply Sl.upA | apply Sl.upD)))); (· omega)) | (with_reducible first | apply Bsc.upE | apply Bsc.upA | apply Bsc.upD)))); rintro e w1 ⟨rfl, hxq⟩; obtain ⟨xq, rfl⟩ := hxq.out; clear hxq) | fail)
    go_ret2
    exact read2_err _ _ _ (by repeat (first | (with_reducible first | exact Ext.refl _ | assumption | apply Ext.alloc | apply Ext.ext | apply Ext.drew | refine Ext.setCell ?_ ?_ _) | (focus (simp [go_sem]; done))))
end Go.Proofs.Ytkjdlbjbppbmdaa

/- Layer 6 of the document: check, counter, Tag. -/
namespace Go.Aes
def checkR (ky : List UInt8) (A : List (List UInt8)) (p : Int) : Int := if checkA ky A ≠ 0 then checkA ky A else if 65519 < p then 2 else 0
theorem checkR_nat (ky : List UInt8) (A : List (List UInt8)) (k : Nat) : checkR ky A k = if checkA ky A ≠ 0 then checkA ky A else if 65519 < k then 2 else 0 := by
  unfold checkR
  by_cases h : checkA ky A ≠ 0
  · rw [if_pos h, if_pos h]
  · rw [if_neg h, if_neg h]
    by_cases h2 : 65519 < k
    · rw [if_pos (by omega), if_pos h2]
    · rw [if_neg (by omega), if_neg h2]
theorem tagE_err {ky : List UInt8} {A : List (List UInt8)} {p : List UInt8} (h : ¬ (checkA ky A = 0 ∧ p.length ≤ 65519)) : tagE ky A p = ([], checkR ky A p.length) ∧ checkR ky A p.length ≠ 0 := by
  rw [checkR_nat]
  unfold tagE
  by_cases h1 : checkA ky A ≠ 0
  · rw [if_pos h1, if_pos h1]; exact ⟨rfl, h1⟩
  · have h2 : 65519 < p.length := by
      rcases Nat.lt_or_ge 65519 p.length with h3 | h3
      · exact h3
      · exact absurd ⟨by simpa using h1, h3⟩ h
    rw [if_neg h1, if_neg h1, if_pos h2, if_pos h2]; exact ⟨rfl, by decide⟩
end Go.Aes
namespace Go.Proofs.Ytkjdlbjbppbmdaa
open Go.RowKit Go.Sec Go.Oct Go.Aes BigFrame

set_option maxRecDepth 100000 in
set_option maxHeartbeats 4000000 in
theorem rcheck_any (a b : Option Addr) (n c m d : Nat) (ky : List UInt8) (A : List (List UInt8)) (p : Int) (w : World) (hk : Sl w a n ky) (hA : Bsc w b m A) (hm : m ≤ 1000000) :
    Calls Try.prog 147 #[.slice a n c, .slice b m d, .int .i64 p] w fun e w' => e = .returned (.int .i64 (checkR ky A p)) ∧ Ext w w' := by
  have hkl := hk.len
  have hAl := hA.len
  by_cases h1 : n = 32
  · by_cases h2 : 16 < m
    · have e := Lib.hid (show checkR ky A p = 8 by
        have : checkA ky A = 8 := by unfold checkA; rw [if_neg (by omega), if_pos (by omega)]
        unfold checkR; rw [this]; rfl)
      have hI : ((n : Int) != 32) = false := by rw [bne_eq_false_iff_eq]; omega
      have hI2 : (16 : Int) < (m : Int) := by omega
      clear hkl h1
      go_enter Try.func147, Try.ntmps147
      go_wp2_with fail
      go_ret
      exact ⟨by rw [e.out]; rfl, Ext.refl _⟩
    · have e := Lib.hid (show checkA ky A = if longA A then 2 else 0 by unfold checkA; rw [if_neg (by omega), if_neg (by omega)])
      have hI : ((n : Int) != 32) = false := by rw [bne_eq_false_iff_eq]; omega
      have hI2 : ¬ (16 : Int) < (m : Int) := by omega
      clear hkl h1
      go_enter Try.func147, Try.ntmps147
      go_wp2_with fail
      go_loopw [7] (fun v7 wr => ∃ i : Nat, i ≤ m ∧ v7 = .int .i64 i ∧ Hid (longA (A.take i) = false) ∧ Ext w wr) (fun v7 _ => m - (intOf v7).toNat)
      case atStart => exact ⟨0, by omega, rfl, Lib.hid rfl, Ext.refl _⟩
      case round =>
        obtain ⟨i, hi, rfl, hm', hx⟩ := hrel
        obtain ⟨x, rfl⟩ := hx.out
        by_cases hlt : i < m
        · obtain ⟨b0, o0, a', n', c', rfl, hb0, hcell, hc', hS⟩ := (hA.ext hx).at i hlt
          have i0 : (0 : Int) ≤ (i : Int) := by omega
          have i1 : (i : Int) < (m : Int) := by omega
          have hsu := Lib.hid (show longA (A.take (i + 1)) = decide (65519 < n') by
            rw [List.take_succ_eq_append_getElem (by omega), ← hS.len]
            unfold longA
            rw [List.any_append]
            have := hm'.out
            unfold longA at this
            rw [this]; simp)
          have htr := Lib.hid (show longA (A.take (i + 1)) = true → longA A = true from fun h => by
            unfold longA at h ⊢
            obtain ⟨x, hx, hp⟩ := List.any_eq_true.1 h
            exact List.any_eq_true.2 ⟨x, List.mem_of_mem_take hx, hp⟩)
          by_cases hn' : 65519 < n'
          · have hI3 : (65519 : Int) < (n' : Int) := by omega
            have hm2 := Lib.hid (show checkR ky A p = 2 by
              have : checkA ky A = 2 := by rw [e.out, htr.out (by rw [hsu.out]; simpa using hn')]; rfl
              unfold checkR; rw [this]; rfl)
            go_wp2_with fail
            go_ret
            exact ⟨by rw [hm2.out]; rfl, (by repeat (first | (with_reducible first | exact Ext.refl _ | assumption | apply Ext.alloc | apply Ext.ext | apply Ext.drew | refine Ext.setCell ?_ ?_ _) | (focus (simp [go_sem]; done))))⟩
          · have hI3 : ¬ (65519 : Int) < (n' : Int) := by omega
            have hm2 := Lib.hid (show longA (A.take (i + 1)) = false by rw [hsu.out]; simpa using hn')
            go_wp2_with fail
            go_roundw
            case rel => exact ⟨i + 1, by omega, by go_num, hm2, (by repeat (first | (with_reducible first | exact Ext.refl _ | assumption | apply Ext.alloc | apply Ext.ext | apply Ext.drew | refine Ext.setCell ?_ ?_ _) | (focus (simp [go_sem]; done))))⟩
            case measure => simp [intOf]; omega
        · obtain rfl : i = m := by omega
          have hlo := Lib.hid (show longA A = false by have := hm'.out; rwa [List.take_of_length_le (by omega)] at this)
          have e2 := Lib.hid (show checkR ky A p = if 65519 < p then 2 else 0 by
            have : checkA ky A = 0 := by rw [e.out, hlo.out]; rfl
            unfold checkR; rw [this]; rfl)
          by_cases hp : 65519 < p
          · go_wp2_with fail
            go_ret
            exact ⟨by rw [e2.out, if_pos hp]; rfl, (by repeat (first | (with_reducible first | exact Ext.refl _ | assumption | apply Ext.alloc | apply Ext.ext | apply Ext.drew | refine Ext.setCell ?_ ?_ _) | (focus (simp [go_sem]; done))))⟩
          · go_wp2_with fail
            go_ret
            exact ⟨by rw [e2.out, if_neg (by omega)]; rfl, (by repeat (first | (with_reducible first | exact Ext.refl _ | assumption | apply Ext.alloc | apply Ext.ext | apply Ext.drew | refine Ext.setCell ?_ ?_ _) | (focus (simp [go_sem]; done))))⟩
  · have e := Lib.hid (show checkR ky A p = 5 by
      have : checkA ky A = 5 := by unfold checkA; rw [if_pos (by omega)]
      unfold checkR; rw [this]; rfl)
    have hI := ne32 h1
    clear hkl h1
    go_enter Try.func147, Try.ntmps147
    go_wp2_with fail
    go_ret
    exact ⟨by rw [e.out]; rfl, Ext.refl _⟩

set_option maxRecDepth 100000 in
set_option maxHeartbeats 4000000 in
theorem counter_any (a : Option Addr) (c : Nat) (t : List UInt8) (w : World) (h : Sl w a 16 t) :
    Calls Try.prog 149 #[.slice a 16 c] w (Fresh 16 (ctrOf t) w) := by
  have htl := h.len
  have hC := Lib.hid (show ctrOf t = (t.set 8 (at' t 8 &&& 127)).set 12 (at' t 12 &&& 127) from rfl)
  go_enter Try.func149, Try.ntmps149
  go_wp2_with fail; (with_reducible refine (join_any _ _ _ _ _ (bss1 h _) (by omega) 16 (by simp [joinL1, htl]) (by omega)).mono ?_); rintro e w1 ⟨a1, c1, rfl, hO1, hx1⟩
  rw [joinL1] at hO1
  have hO1 := hO1.mono (base' := w.heap.size) (by simp)
  have hx1 : Ext w w1 := Ext.trans (Ext.of_alloc _ _) hx1
  obtain ⟨g, rfl, hg, hgb, hcell8, hfr8, _⟩ := hO1.at 8 (by omega)
  obtain ⟨_, e1, _, _, hcell12, hfr12, _⟩ := hO1.at 12 (by omega)
  injection e1 with e1
  injection e1 with e1 _
  subst e1
  have hle := hO1.le
  have hO2 := hO1.put 8 (by omega) (at' t 8 &&& 127)
  have hO3 := hO2.put 12 (by omega) (at' t 12 &&& 127)
  rw [← hC.out] at hO3
  have hx3 : Ext w ((w1.setCell ⟨g, 8, none⟩ (.int .u8 (n8 (at' t 8 &&& 127)))).setCell ⟨g, 12, none⟩ (.int .u8 (n8 (at' t 12 &&& 127)))) := Ext.setCell (Ext.setCell hx1 hg _) hg _
  rw [show t.getD 8 0 = at' t 8 from rfl] at hcell8
  rw [show t.getD 12 0 = at' t 12 from rfl] at hcell12
  clear hO1 hO2
  go_wp2_with fail
  go_region
  go_wp2
  go_ret
  exact ⟨_, _, rfl, hO3.ext (Ext.drew (Ext.refl _)), hx3.drew⟩

set_option maxRecDepth 100000 in
set_option maxHeartbeats 4000000 in
theorem rtag_any (a b c : Option Addr) (n ca m cb k cc : Nat) (ky : List UInt8) (A : List (List UInt8)) (p : List UInt8) (w : World) (hk : Sl w a n ky) (hca : n ≤ ca) (hA : Bsc w b m A) (hm : m ≤ 1000000) (hp : Sl w c k p) (hkc : k ≤ cc) :
    Calls Try.prog 150 #[.slice a n ca, .slice b m cb, .slice c k cc] w (Read2 (tagE ky A p).1.length (tagE ky A p).1 (.int .i64 (tagE ky A p).2) w) := by
  have hc := fun w h1 h2 => rcheck_any a b n ca m cb ky A (k : Int) w h1 h2 hm
  have hpl := hp.len
  have hcr := checkR_nat ky A k
  by_cases h0 : checkA ky A = 0 ∧ k ≤ 65519
  · obtain ⟨h0, hl⟩ := h0
    have h00 : checkR ky A k = 0 := by rw [hcr, if_neg (by rw [h0]; simp), if_neg (by omega)]
    rw [h00] at hc
    obtain ⟨h32, h16, hmx⟩ := checkA_ok h0
    rw [hk.len] at h32
    rw [hA.len] at h16
    subst h32
    rw [tagE_ok h0 (by omega)]
    show Calls _ _ _ _ (Read2 (s2v _ _).length _ _ _)
    rw [s2v_length]
    have hmax : ∀ x ∈ A ++ [p], x.length ≤ 65535 := by
      intro x hx
      rcases List.mem_append.1 hx with h | h
      · have := hmx x h; omega
      · simp only [List.mem_singleton] at h; subst h; omega
    have q : (16 : Int) ≤ (ca : Int) := by omega
    clear h0 h00 hcr hmx hpl
    go_enter Try.func150, Try.ntmps150
    go_wp2_with (first | (go_at_call 147; (with_reducible refine (hc ?_ ?hq106 ?hq107).mono ?_); (case hq106 => (repeat' (first | with_reducible assumption | (with_reducible exact zeros16 _) | (with_reducible exact sl_new1 _ _ _) | (with_reducible first | apply Sl.upE | apply Sl.upA | apply Sl.upD)))); (case hq107 => (repeat' (first | with_reducible assumption | (refine bsc2 ?_ ?_ ?_ ?_ _; (· (repeat' (first | with_reducible assumption | (with_reducible exact zeros16 _) | (with_reducible exact sl_new1 _ _ _) | (with_reducible first | apply Sl.upE | apply Sl.upA | apply Sl.upD)))); (· omega); (· (repeat' (first | with_reducible assumption | (with_reducible exact zeros16 _) | (with_reducible exact sl_new1 _ _ _) | (with_reducible first | apply Sl.upE | apply Sl.upA | apply Sl.upD)))); (· omega)) | (with_reducible first | apply Bsc.upE | apply Bsc.upA | apply Bsc.upD)))); rintro e w1 ⟨rfl, hxq⟩; obtain ⟨xq, rfl⟩ := hxq.out; clear hxq) | fail)
    have hxW : Ext w (w.ext xq) := (by repeat (first | (with_reducible first | exact Ext.refl _ | assumption | apply Ext.alloc | apply Ext.ext | apply Ext.drew | refine Ext.setCell ?_ ?_ _) | (focus (simp [go_sem]; done))))
    generalize w.ext xq = W at *
    have hkW := (hk.ext hxW).take 16 (by omega)
    have hRB := (hA.ext hxW).rdB
    have hpW := hp.ext hxW
    have hSE : ∀ w', Ext (W) w' → (Ext (W)) w' := (fun _ h => h); have hExt0 : Ext (W) (W).drew := Ext.drew (Ext.refl _); refine wp_region_held_drew (S := Ext (W)) (by kernel_rfl) (hSE _ hExt0) (fun hHeld => ?_)
    refine wpAnyH_take (i := 0) (v := ?v95) rfl (by kernel_rfl) (by kernel_rfl) (by kernel_rfl) (fun _ _ _ h => h) (Or.inl ⟨by rfl, ?hy95⟩) hHeld ?_; (case hy95 => (intro w' hx; simp [go_sem, execOp, *]; (try simp (disch := omega) only [Go.IntWalk.i64_in, Go.IntWalk.rem_in, Go.IntWalk.wrap64_in]); rfl)); (try simp only [List.getElem_toArray, List.getElem_cons_succ, List.getElem_cons_zero, Act.put, List.setIfInBounds_toArray, List.set_cons_succ, List.set_cons_zero])
    refine wpAnyH_take (i := 1) (v := ?v96) rfl (by kernel_rfl) (by kernel_rfl) (by kernel_rfl) (fun _ _ _ h => h) (Or.inl ⟨by rfl, ?hy96⟩) hHeld ?_; (case hy96 => (intro w' hx; simp [go_sem, execOp, *]; (try simp (disch := omega) only [Go.IntWalk.i64_in, Go.IntWalk.rem_in, Go.IntWalk.wrap64_in]); rfl)); (try simp only [List.getElem_toArray, List.getElem_cons_succ, List.getElem_cons_zero, Act.put, List.setIfInBounds_toArray, List.set_cons_succ, List.set_cons_zero])
    refine wpAnyH_take (i := 3) (v := ?v97) rfl (by kernel_rfl) (by kernel_rfl) (by kernel_rfl) (fun _ _ _ h => h) (Or.inl ⟨by rfl, ?hy97⟩) hHeld ?_; (case hy97 => (intro w' hx; simp [go_sem, execOp, *]; (try simp (disch := omega) only [Go.IntWalk.i64_in, Go.IntWalk.rem_in, Go.IntWalk.wrap64_in]); rfl)); (try simp only [List.getElem_toArray, List.getElem_cons_succ, List.getElem_cons_zero, Act.put, List.setIfInBounds_toArray, List.set_cons_succ, List.set_cons_zero])
    refine wpAnyH_take (i := 5) (v := ?v98) rfl (by kernel_rfl) (by kernel_rfl) (by kernel_rfl) (fun _ _ _ h => h) (Or.inl ⟨by rfl, ?hy98⟩) hHeld ?_; (case hy98 => (intro w' hx; simp [go_sem, execOp, *]; (try simp (disch := omega) only [Go.IntWalk.i64_in, Go.IntWalk.rem_in, Go.IntWalk.wrap64_in]); rfl)); (try simp only [List.getElem_toArray, List.getElem_cons_succ, List.getElem_cons_zero, Act.put, List.setIfInBounds_toArray, List.set_cons_succ, List.set_cons_zero])
    refine R5.any_late2 7 9 [[], [0], [], [], [2, 3], [], [5], [2, 3, 4, 5, 6], [0, 1, 2, 3, 4, 5, 6, 7], [0, 1, 2, 3, 4, 5, 6, 7, 8], [0, 1, 2, 3, 4, 5, 6, 7, 8], [0, 1, 2, 3, 4, 5, 6, 7, 8, 9, 10], [0, 1, 2, 3, 4, 5, 6, 7, 8, 9, 10, 11]] [0, 1, 3, 5] #[true, true, true, true, true, true, true, true, true, false, false, false, false] 4 hExt0 hSE (by kernel_rfl) (by kernel_rfl) (by kernel_rfl) (by kernel_rfl) (by kernel_rfl) (by kernel_rfl) ?_; simp only [List.take_succ_cons, List.take_zero, List.drop_succ_cons, List.drop_zero, List.take_nil, List.drop_nil, Nat.reduceSub]
    refine R5.VD_taken rfl ?_
    refine R5.VD_taken rfl ?_
    (refine R5.VD_vag rfl (fun p => .slice (p 0).1 0 0) (fun p w'' => ∃ g, (p 0).1 = some ⟨g, 0, none⟩ ∧ OwnB w'' W.heap.size (some ⟨g, 0, none⟩) 0 0 []) (fun p w w' h hx => (let ⟨g, h1, h2⟩ := h; ⟨g, h1, h2.ext hx⟩)) (fun us w' hx hf => ⟨rfl, ?_⟩) ?_; (unfold gives; simp [go_sem, execOp]; exact ⟨fun _ => (some ⟨w'.heap.size, 0, none⟩, 0), rfl, Ext.of_alloc _ _, _, rfl, (OwnB.empty _).mono0 hx.size⟩))
    refine R5.VD_taken rfl ?_
    (refine R5.VD_vag rfl (fun p => .slice (p 0).1 m (p 0).2) (fun p w'' => OwnB w'' W.heap.size (p 0).1 m (p 0).2 A) (fun p w w' h hx => h.ext hx) (fun us w' hx hf => ⟨rfl, ?_⟩) ?_; (obtain ⟨g, hg, hE⟩ := (hf _ (List.mem_append_right _ (List.mem_singleton_self _)) rfl); obtain ⟨sa, sc, w'', hrun, hO, hx'⟩ := R5.append_empty_bs V8 w' 40 W.heap.size g hE _ m cb A (hRB.ext hx) (by omega) hx.size; exact R5.gives_append rfl (by show Value.slice (us 2 0).1 0 0 = _; rw [hg]) rfl hrun ⟨fun _ => (sa, sc), rfl, hx', hO⟩))
    refine R5.VD_taken rfl ?_
    (refine R5.VD_vag rfl (fun p => .slice (p 0).1 1 1) (fun p w'' => Rd w'' (p 0).1 [.slice c k cc]) (fun p w w' h hx => h.ext hx) (fun us w' hx hf => ⟨rfl, ?_⟩) ?_; (unfold gives; simp [go_sem, execOp]; exact ⟨fun _ => (some ⟨w'.heap.size, 0, none⟩, 0), rfl, Ext.of_alloc _ _, (Blk.new _ _ _).rd⟩))
    (refine R5.VD_nil ?_; intro us w' hx hf; obtain ⟨x, rfl⟩ := hx.out; (try simp only [Act.put, List.setIfInBounds_toArray, List.set_cons_succ, List.set_cons_zero, wpList_none]); (try simp only [List.mem_cons, List.not_mem_nil, or_false, forall_eq_or_imp, forall_eq, List.nil_append, List.cons_append, List.mem_append, false_or, true_and, and_true] at hf); (try simp only [Nat.reduceAdd, Nat.zero_add] at hf); (try simp only [Nat.reduceAdd, Nat.zero_add]))
    obtain ⟨-, hO1, hR2⟩ := hf
    (refine R5.chain_append_bs hSE V8 rfl rfl _ _ rfl (W.heap.size) _ m _ (A) rfl _ 1 1 ([p]) rfl (hO1) (RdB.one hR2 (hpW.ext hx) hkc (hpW.inB _)) (by omega) (hx.size) (Nat.le_refl _) (hx) ?_; intro sa2 sc2 w2 hOa hg2 hB2 hx2)
    have hBs := hOa.bsc
    have hle := hOa.le
    have hk2 := hkW.ext hx2
    (refine R5.chain_cons rfl rfl ?_; unfold gives; simp [go_sem, execOp]; (with_reducible refine (rvector_any ?_ ?_ ?_ ?_ ?_ (ky.take 16) (A ++ [p]) ?_ ?hq103 ?hq104 ?hq105 hmax).mono ?_); (case hq103 => (repeat' (first | with_reducible assumption | (with_reducible exact zeros16 _) | (with_reducible exact sl_new1 _ _ _) | (with_reducible first | apply Sl.upE | apply Sl.upA | apply Sl.upD)))); (case hq104 => (repeat' (first | with_reducible assumption | (refine bsc2 ?_ ?_ ?_ ?_ _; (· (repeat' (first | with_reducible assumption | (with_reducible exact zeros16 _) | (with_reducible exact sl_new1 _ _ _) | (with_reducible first | apply Sl.upE | apply Sl.upA | apply Sl.upD)))); (· omega); (· (repeat' (first | with_reducible assumption | (with_reducible exact zeros16 _) | (with_reducible exact sl_new1 _ _ _) | (with_reducible first | apply Sl.upE | apply Sl.upA | apply Sl.upD)))); (· omega)) | (with_reducible first | apply Bsc.upE | apply Bsc.upA | apply Bsc.upD)))); (case hq105 => omega); rintro e _ ⟨_, _, rfl, hS, hc, hx⟩; obtain ⟨_, rfl⟩ := hx.out; clear hx; refine ⟨_, rfl, hSE _ (by repeat (first | (with_reducible first | exact Ext.refl _ | assumption | apply Ext.alloc | apply Ext.ext | apply Ext.drew | refine Ext.setCell ?_ ?_ _) | (focus (simp [go_sem]; done)))), ?_⟩; (try simp only [List.getElem_toArray, List.getElem_cons_succ, List.getElem_cons_zero, Act.put, List.setIfInBounds_toArray, List.set_cons_succ, List.set_cons_zero]))
    (refine R5.chain_nil ?_)
    refine wpAnyH_take (i := 9) (v := ?v99) rfl (by kernel_rfl) (by kernel_rfl) (by kernel_rfl) (fun _ _ _ h => h) (Or.inl ⟨by rfl, ?hy99⟩) (hSE _ (by repeat (first | (with_reducible first | exact Ext.refl _ | assumption | apply Ext.alloc | apply Ext.ext | apply Ext.drew | refine Ext.setCell ?_ ?_ _) | (focus (simp [go_sem]; done))))) ?_; (case hy99 => (intro w' hx; simp [go_sem, execOp, *]; (try simp (disch := omega) only [Go.IntWalk.i64_in, Go.IntWalk.rem_in, Go.IntWalk.wrap64_in]); rfl)); (try simp only [List.getElem_toArray, List.getElem_cons_succ, List.getElem_cons_zero, Act.put, List.setIfInBounds_toArray, List.set_cons_succ, List.set_cons_zero])
    refine wpAnyH_take (i := 10) (v := ?v100) rfl (by kernel_rfl) (by kernel_rfl) (by kernel_rfl) (fun _ _ _ h => h) (Or.inl ⟨by rfl, ?hy100⟩) (hSE _ (by repeat (first | (with_reducible first | exact Ext.refl _ | assumption | apply Ext.alloc | apply Ext.ext | apply Ext.drew | refine Ext.setCell ?_ ?_ _) | (focus (simp [go_sem]; done))))) ?_; (case hy100 => (intro w' hx; simp [go_sem, execOp, *]; (try simp (disch := omega) only [Go.IntWalk.i64_in, Go.IntWalk.rem_in, Go.IntWalk.wrap64_in]); rfl)); (try simp only [List.getElem_toArray, List.getElem_cons_succ, List.getElem_cons_zero, Act.put, List.setIfInBounds_toArray, List.set_cons_succ, List.set_cons_zero])
    refine wpAnyH_take (i := 11) (v := ?v101) rfl (by kernel_rfl) (by kernel_rfl) (by kernel_rfl) (fun _ _ _ h => h) (Or.inl ⟨by rfl, ?hy101⟩) (hSE _ (by repeat (first | (with_reducible first | exact Ext.refl _ | assumption | apply Ext.alloc | apply Ext.ext | apply Ext.drew | refine Ext.setCell ?_ ?_ _) | (focus (simp [go_sem]; done))))) ?_; (case hy101 => (intro w' hx; simp [go_sem, execOp, *]; (try simp (disch := omega) only [Go.IntWalk.i64_in, Go.IntWalk.rem_in, Go.IntWalk.wrap64_in]); rfl)); (try simp only [List.getElem_toArray, List.getElem_cons_succ, List.getElem_cons_zero, Act.put, List.setIfInBounds_toArray, List.set_cons_succ, List.set_cons_zero])
    refine wpAnyH_take (i := 12) (v := ?v102) rfl (by kernel_rfl) (by kernel_rfl) (by kernel_rfl) (fun _ _ _ h => h) (Or.inl ⟨by rfl, ?hy102⟩) (hSE _ (by repeat (first | (with_reducible first | exact Ext.refl _ | assumption | apply Ext.alloc | apply Ext.ext | apply Ext.drew | refine Ext.setCell ?_ ?_ _) | (focus (simp [go_sem]; done))))) ?_; (case hy102 => (intro w' hx; simp [go_sem, execOp, *]; (try simp (disch := omega) only [Go.IntWalk.i64_in, Go.IntWalk.rem_in, Go.IntWalk.wrap64_in]); rfl)); (try simp only [List.getElem_toArray, List.getElem_cons_succ, List.getElem_cons_zero, Act.put, List.setIfInBounds_toArray, List.set_cons_succ, List.set_cons_zero])
    refine wpAnyH_done (by kernel_rfl) ?_ _
    go_wp2
    go_ret2
    exact ⟨_, _, rfl, hS, hc, hxW.trans (by repeat (first | (with_reducible first | exact Ext.refl _ | assumption | apply Ext.alloc | apply Ext.ext | apply Ext.drew | refine Ext.setCell ?_ ?_ _) | (focus (simp [go_sem]; done))))⟩
  · obtain ⟨e, hne⟩ := tagE_err (p := p) (by rw [hpl]; exact h0)
    rw [hpl] at e hne
    rw [e]
    have hI := ne0 hne
    clear hne
    generalize checkR ky A k = v at *
    clear e h0 hcr
    go_enter Try.func150, Try.ntmps150
    go_wp2_with (first | (go_at_call 147; (with_reducible refine (hc ?_ ?hq108 ?hq109).mono ?_); (case hq108 => (repeat' (first | with_reducible assumption | (with_reducible exact zeros16 _) | (with_reducible exact sl_new1 _ _ _) | (with_reducible first | apply Sl.upE | apply Sl.upA | apply Sl.upD)))); (case hq109 => (repeat' (first | with_reducible assumption | (refine bsc2 ?_ ?_ ?_ ?_ _; (· (repeat' (first | with_reducible assumption | (with_reducible exact zeros16 _) | (with_reducible exact sl_new1 _ _ _) | (with_reducible first | apply Sl.upE | apply Sl.upA | apply Sl.upD)))); (· omega); (· (repeat' (first | with_reducible assumption | (with_reducible exact zeros16 _) | (with_reducible exact sl_new1 _ _ _) | (with_reducible first | apply Sl.upE | apply Sl.upA | apply Sl.upD)))); (· omega)) | (with_reducible first | apply Bsc.upE | apply Bsc.upA | apply Bsc.upD)))); rintro e w1 ⟨rfl, hxq⟩; obtain ⟨xq, rfl⟩ := hxq.out; clear hxq) | fail)
    go_ret2
    exact read2_err _ _ _ (by repeat (first | (with_reducible first | exact Ext.refl _ | assumption | apply Ext.alloc | apply Ext.ext | apply Ext.drew | refine Ext.setCell ?_ ?_ _) | (focus (simp [go_sem]; done))))
end Go.Proofs.Ytkjdlbjbppbmdaa

/- Layer 6 of the document: Seal, Open. -/
namespace Go.Proofs.Ytkjdlbjbppbmdaa
open Go.RowKit Go.Sec Go.Oct Go.Aes BigFrame

theorem sl_from {w : World} {b0 o0 n ca i : Nat} {l : List UInt8} (h : Sl w (some ⟨b0, o0, none⟩) n l) (hca : n ≤ ca) (hi : i < n) : Sl w (some ⟨b0, o0 + i, none⟩) (n - i) (l.drop i) := by
  have := h.drop ca i hca
  unfold sAdr at this
  rw [if_neg (by omega)] at this
  simpa [addr_add] using this

set_option maxRecDepth 100000 in
set_option maxHeartbeats 4000000 in
theorem rseal_any (a b c : Option Addr) (n ca m cb k cc : Nat) (ky : List UInt8) (A : List (List UInt8)) (p : List UInt8) (w : World) (hk : Sl w a n ky) (hca : n ≤ ca) (hA : Bsc w b m A) (hm : m ≤ 1000000) (hp : Sl w c k p) (hkc : k ≤ cc) :
    Calls Try.prog 120 #[.slice a n ca, .slice b m cb, .slice c k cc] w (Read2 (sealE ky A p).1.length (sealE ky A p).1 (.int .i64 (sealE ky A p).2) w) := by
  have ht := fun w h1 h3 h5 => rtag_any a b c n ca m cb k cc ky A p w h1 hca h3 hm h5 hkc
  by_cases h0 : (tagE ky A p).2 = 0
  · obtain ⟨h16, hck, hpl⟩ := tagE_len h0
    obtain ⟨h32, _, _⟩ := checkA_ok hck
    rw [hk.len] at h32
    rw [hp.len] at hpl
    subst h32
    have e := Lib.hid (show sealE ky A p = ((tagE ky A p).1 ++ stream (ky.drop 16) (ctrOf (tagE ky A p).1) p, 0) by unfold sealE; rw [if_neg (by simpa using h0)])
    rw [h0, h16] at ht
    have hsl := stream_length (ky.drop 16) (ctrOf (tagE ky A p).1) p
    rw [hp.len] at hsl
    obtain ⟨b0, o0, rfl, hb0, _⟩ := hk.at 0 (by omega)
    have hk2 := sl_from hk hca (i := 16) (by omega)
    have hst := fun a1 a2 c1 c2 w h1 h2 h3 h4 => rstream_any a1 a2 c c1 c2 cc k (ky.drop 16) (ctrOf (tagE ky A p).1) p w h1 h2 h3 h4 (by omega)
    have hct := fun a c w h => counter_any a c (tagE ky A p).1 w h
    generalize stream (ky.drop 16) (ctrOf (tagE ky A p).1) p = st at *
    generalize ctrOf (tagE ky A p).1 = ct at *
    generalize (tagE ky A p).1 = tg at *
    rw [e.out]
    have hll : (tg ++ st).length = 16 + k := by rw [List.length_append, h16, hsl]
    show Calls _ _ _ _ (Read2 (tg ++ st).length _ _ _)
    rw [hll]
    clear h0 hck
    have hj : joinL [tg, st] = tg ++ st := by simp [joinL]
    have hjl : (joinL [tg, st]).length = 16 + k := by rw [hj, hll]
    have HJ := Lib.hid hj
    have q : (16 : Int) ≤ (ca : Int) := by omega
    clear hj
    go_enter Try.func120, Try.ntmps120
    go_wp2_with fail
    refine (ht _ hk hA hp).mono ?_
    rintro e W ⟨a3, c3, rfl, hS3, hc3, hxW⟩
    have hkW := hk2.ext hxW
    have hpW := hp.ext hxW
    have q4 : ¬ ca = 16 := by omega
    go_wp2_with fail
    refine wp_region_vague 11 [[], [0], [], [2], [], [0, 1, 2, 3, 4], [0, 1, 2, 3, 4, 5], [0, 1, 2, 3, 4, 5, 6], [0, 1, 2, 3, 4, 5, 6], [0, 1, 2, 3, 4, 5, 6, 7], [0, 1, 2, 3, 4, 5, 6, 7, 8, 9]] (by kernel_rfl) (by kernel_rfl) (by kernel_rfl) (by kernel_rfl) ?_; simp only [List.take_succ_cons, List.take_zero, List.drop_succ_cons, List.drop_zero, List.take_nil, List.drop_nil]
    (repeat (apply VD_der; (case h => (intro us w' hx hf; obtain ⟨x, rfl⟩ := hx.out; refine ⟨rfl, ?_⟩; simp [go_sem, execOp, *]; (try simp (disch := omega) only [Go.IntWalk.i64_in, Go.IntWalk.rem_in, Go.IntWalk.wrap64_in]); rfl)); (try simp only [Act.put, List.setIfInBounds_toArray, List.set_cons_succ, List.set_cons_zero])))
    (refine VD_vag (fun p => .slice (p 0).1 (16) (p 0).2) (fun p w'' => Own w'' 0 (p 0).1 (16) (p 0).2 (ct)) (fun p w w' h hx => h.ext hx) (fun us w' hx hf => ⟨rfl, ?_⟩) ?_; (unfold gives; simp [go_sem, execOp]; exact vag_fresh (Nat.zero_le _) (hct _ _ _ (hS3.ext hx))))
    (repeat (apply VD_der; (case h => (intro us w' hx hf; obtain ⟨x, rfl⟩ := hx.out; refine ⟨rfl, ?_⟩; simp [go_sem, execOp, *]; (try simp (disch := omega) only [Go.IntWalk.i64_in, Go.IntWalk.rem_in, Go.IntWalk.wrap64_in]); rfl)); (try simp only [Act.put, List.setIfInBounds_toArray, List.set_cons_succ, List.set_cons_zero])))
    (refine VD_vag (fun p => .tuple #[.slice (p 0).1 (k) (p 0).2, .int .i64 0]) (fun p w'' => Sl w'' (p 0).1 (k) (st) ∧ (k) ≤ (p 0).2) (fun p w w' h hx => ⟨h.1.ext hx, h.2⟩) (fun us w' hx hf => ⟨rfl, ?_⟩) ?_; (unfold gives; simp [go_sem, execOp]; exact vag_read (hst _ _ _ _ _ (hkW.ext hx) (Own.sl (by exact (hf _ (List.mem_append_right _ (List.mem_singleton_self _)) rfl))) (Own.le (by exact (hf _ (List.mem_append_right _ (List.mem_singleton_self _)) rfl))).1 (hpW.ext hx))))
    (repeat (apply VD_der; (case h => (intro us w' hx hf; obtain ⟨x, rfl⟩ := hx.out; refine ⟨rfl, ?_⟩; simp [go_sem, execOp, *]; (try simp (disch := omega) only [Go.IntWalk.i64_in, Go.IntWalk.rem_in, Go.IntWalk.wrap64_in]); rfl)); (try simp only [Act.put, List.setIfInBounds_toArray, List.set_cons_succ, List.set_cons_zero])))
    (refine VD_nil ?_; intro us w' hx hf; obtain ⟨x, rfl⟩ := hx.out; (try simp only [Act.put, List.setIfInBounds_toArray, List.set_cons_succ, List.set_cons_zero, wpList_none]); (try simp only [List.mem_cons, List.not_mem_nil, or_false, forall_eq_or_imp, forall_eq, List.nil_append, List.cons_append, List.mem_append, false_or, true_and, and_true] at hf); (try simp only [Nat.reduceAdd, Nat.zero_add] at hf); (try simp only [Nat.reduceAdd, Nat.zero_add]))
    obtain ⟨-, hS4, hc4⟩ := hf
    go_wp2_with fail
    (with_reducible refine (join_any _ _ _ [tg, st] _ (bss2 ?h1 ?h2 _) (by omega) (16 + k) hjl (by omega)).mono ?_)
    case h1 => exact (by (repeat' (first | with_reducible assumption | (with_reducible exact zeros16 _) | (with_reducible exact sl_new1 _ _ _) | (with_reducible first | apply Sl.upE | apply Sl.upA | apply Sl.upD))))
    case h2 => exact (by (repeat' (first | with_reducible assumption | (with_reducible exact zeros16 _) | (with_reducible exact sl_new1 _ _ _) | (with_reducible first | apply Sl.upE | apply Sl.upA | apply Sl.upD))))
    rintro e _ ⟨_, _, rfl, hO, hx⟩
    obtain ⟨_, rfl⟩ := hx.out
    clear hx
    go_wp2
    rw [HJ.out] at hO
    go_ret2
    exact ⟨_, _, rfl, hO.sl, hO.le.1, hxW.trans (by repeat (first | (with_reducible first | exact Ext.refl _ | assumption | apply Ext.alloc | apply Ext.ext | apply Ext.drew | refine Ext.setCell ?_ ?_ _) | (focus (simp [go_sem]; done))))⟩
  · have e : sealE ky A p = ([], (tagE ky A p).2) := by unfold sealE; rw [if_pos h0]
    rw [e]
    have hI := ne0 h0
    generalize (tagE ky A p).2 = v at *
    generalize (tagE ky A p).1 = tg at *
    clear e h0
    go_enter Try.func120, Try.ntmps120
    go_wp2_with (first | (go_at_call 150; (with_reducible refine (ht ?_ ?hq110 ?hq111 ?hq112).mono ?_); (case hq110 => (repeat' (first | with_reducible assumption | (with_reducible exact zeros16 _) | (with_reducible exact sl_new1 _ _ _) | (with_reducible first | apply Sl.upE | apply Sl.upA | apply Sl.upD)))); (case hq111 => (repeat' (first | with_reducible assumption | (refine bsc2 ?_ ?_ ?_ ?_ _; (· (repeat' (first | with_reducible assumption | (with_reducible exact zeros16 _) | (with_reducible exact sl_new1 _ _ _) | (with_reducible first | apply Sl.upE | apply Sl.upA | apply Sl.upD)))); (· omega); (· (repeat' (first | with_reducible assumption | (with_reducible exact zeros16 _) | (with_reducible exact sl_new1 _ _ _) | (with_reducible first | apply Sl.upE | apply Sl.upA | apply Sl.upD)))); (· omega)) | (with_reducible first | apply Bsc.upE | apply Bsc.upA | apply Bsc.upD)))); (case hq112 => (repeat' (first | with_reducible assumption | (with_reducible exact zeros16 _) | (with_reducible exact sl_new1 _ _ _) | (with_reducible first | apply Sl.upE | apply Sl.upA | apply Sl.upD)))); rintro e _ ⟨_, _, rfl, hS, hc, hx⟩; obtain ⟨_, rfl⟩ := hx.out; clear hx) | fail)
    go_ret2
    exact read2_err _ _ _ (by repeat (first | (with_reducible first | exact Ext.refl _ | assumption | apply Ext.alloc | apply Ext.ext | apply Ext.drew | refine Ext.setCell ?_ ?_ _) | (focus (simp [go_sem]; done))))

set_option maxRecDepth 100000 in
set_option maxHeartbeats 4000000 in
theorem ropen_any (a b c : Option Addr) (n ca m cb k cc : Nat) (ky : List UInt8) (A : List (List UInt8)) (s : List UInt8) (w : World) (hk : Sl w a n ky) (hca : n ≤ ca) (hA : Bsc w b m A) (hm : m ≤ 1000000) (hs : Sl w c k s) (hkc : k ≤ cc) (hk1 : k ≤ 1000000) :
    Calls Try.prog 95 #[.slice a n ca, .slice b m cb, .slice c k cc] w (Read2 (openE ky A s).1.length (openE ky A s).1 (.int .i64 (openE ky A s).2) w) := by
  have hc := fun w h1 h2 => rcheck_any a b n ca m cb ky A ((k : Int) - 16) w h1 h2 hm
  have hsl := hs.len
  by_cases h0 : checkA ky A = 0 ∧ k ≤ 65535
  · obtain ⟨h0, hl⟩ := h0
    obtain ⟨h32, _, _⟩ := checkA_ok h0
    rw [hk.len] at h32
    subst h32
    have h00 : checkR ky A ((k : Int) - 16) = 0 := by unfold checkR; rw [if_neg (by rw [h0]; simp), if_neg (by omega)]
    rw [h00] at hc
    by_cases h16 : k < 16
    · have e : openE ky A s = ([], 1) := by unfold openE; rw [if_neg (by rw [h0]; simp), if_neg (by omega), if_pos (by omega)]
      rw [e]
      have hI : decide ((k : Int) < 16) = true := by simp; omega
      clear e h0 hsl h00
      go_enter Try.func95, Try.ntmps95
      go_wp2_with (first | (go_at_call 147; (with_reducible refine (hc ?_ ?hq121 ?hq122).mono ?_); (case hq121 => (repeat' (first | with_reducible assumption | (with_reducible exact zeros16 _) | (with_reducible exact sl_new1 _ _ _) | (with_reducible first | apply Sl.upE | apply Sl.upA | apply Sl.upD)))); (case hq122 => (repeat' (first | with_reducible assumption | (refine bsc2 ?_ ?_ ?_ ?_ _; (· (repeat' (first | with_reducible assumption | (with_reducible exact zeros16 _) | (with_reducible exact sl_new1 _ _ _) | (with_reducible first | apply Sl.upE | apply Sl.upA | apply Sl.upD)))); (· omega); (· (repeat' (first | with_reducible assumption | (with_reducible exact zeros16 _) | (with_reducible exact sl_new1 _ _ _) | (with_reducible first | apply Sl.upE | apply Sl.upA | apply Sl.upD)))); (· omega)) | (with_reducible first | apply Bsc.upE | apply Bsc.upA | apply Bsc.upD)))); rintro e w1 ⟨rfl, hxq⟩; obtain ⟨xq, rfl⟩ := hxq.out; clear hxq) | fail)
      go_ret2
      exact read2_err _ _ _ (by repeat (first | (with_reducible first | exact Ext.refl _ | assumption | apply Ext.alloc | apply Ext.ext | apply Ext.drew | refine Ext.setCell ?_ ?_ _) | (focus (simp [go_sem]; done))))
    · have e := Lib.hid (show openE ky A s = if (tagE ky A (plainOf ky s)).1 = s.take 16 then (plainOf ky s, 0) else ([], 6) by unfold openE; rw [if_neg (by rw [h0]; simp), if_neg (by omega), if_neg (by omega)])
      have htg : tagE ky A (plainOf ky s) = (s2v (ky.take 16) (A ++ [plainOf ky s]), 0) := tagE_ok h0 (by rw [plainOf_length]; omega)
      have ht := fun c cc w h1 h3 h5 h6 => rtag_any a b c 32 ca m cb (k - 16) cc ky A (plainOf ky s) w h1 hca h3 hm h5 h6
      have hpo : plainOf ky s = stream (ky.drop 16) (ctrOf (s.take 16)) (s.drop 16) := rfl
      obtain ⟨b0, o0, rfl, hb0, _⟩ := hk.at 0 (by omega)
      have hk2 := sl_from hk hca (i := 16) (by omega)
      have hs1 := hs.take 16 (by omega)
      have hs2 := hs.drop cc 16 hkc
      have hst := fun a1 a2 a3 c1 c2 c3 w h1 h2 h3 h4 => rstream_any a1 a2 a3 c1 c2 c3 (k - 16) (ky.drop 16) (ctrOf (s.take 16)) (s.drop 16) w h1 h2 h3 h4 (by omega)
      have hct := fun a c w h => counter_any a c (s.take 16) w h
      rw [← hpo] at hst
      rw [htg] at ht
      rw [htg] at e
      have hpl : (plainOf ky s).length = k - 16 := by rw [plainOf_length]; omega
      have htl := s2v_length (ky.take 16) (A ++ [plainOf ky s])
      simp only at ht e
      rw [htl] at ht
      generalize s2v (ky.take 16) (A ++ [plainOf ky s]) = tg at *
      generalize plainOf ky s = pl at *
      generalize ctrOf (s.take 16) = ct at *
      generalize s.take 16 = s0 at *
      generalize s.drop 16 = s1 at *
      clear htg h0 hpo hsl h00
      rw [e.out]
      have hI : decide ((k : Int) < 16) = false := by simp; omega
      have q : (16 : Int) ≤ (ca : Int) := by omega
      have q2 : (16 : Int) ≤ (k : Int) := by omega
      have q3 : (16 : Int) ≤ (cc : Int) := by omega
      have q4 : ¬ ca = 16 := by omega
      by_cases he : tg = s0
      · rw [if_pos he]
        show Calls _ _ _ _ (Read2 pl.length _ _ _)
        rw [hpl]
        have hb : (tg == s0) = true := by simpa using he
        clear he
        clear e
        go_enter Try.func95, Try.ntmps95
        go_wp2_with (first | (go_at_call 147; (with_reducible refine (hc ?_ ?hq123 ?hq124).mono ?_); (case hq123 => (repeat' (first | with_reducible assumption | (with_reducible exact zeros16 _) | (with_reducible exact sl_new1 _ _ _) | (with_reducible first | apply Sl.upE | apply Sl.upA | apply Sl.upD)))); (case hq124 => (repeat' (first | with_reducible assumption | (refine bsc2 ?_ ?_ ?_ ?_ _; (· (repeat' (first | with_reducible assumption | (with_reducible exact zeros16 _) | (with_reducible exact sl_new1 _ _ _) | (with_reducible first | apply Sl.upE | apply Sl.upA | apply Sl.upD)))); (· omega); (· (repeat' (first | with_reducible assumption | (with_reducible exact zeros16 _) | (with_reducible exact sl_new1 _ _ _) | (with_reducible first | apply Sl.upE | apply Sl.upA | apply Sl.upD)))); (· omega)) | (with_reducible first | apply Bsc.upE | apply Bsc.upA | apply Bsc.upD)))); rintro e w1 ⟨rfl, hxq⟩; obtain ⟨xq, rfl⟩ := hxq.out; clear hxq) | fail)
        have hxW : Ext w (w.ext xq) := (by repeat (first | (with_reducible first | exact Ext.refl _ | assumption | apply Ext.alloc | apply Ext.ext | apply Ext.drew | refine Ext.setCell ?_ ?_ _) | (focus (simp [go_sem]; done))))
        have hkW := hk2.ext hxW
        have hs1W := hs1.ext hxW
        have hs2W := hs2.ext hxW
        have hkk := hk.ext hxW
        have hAA := hA.ext hxW
        generalize w.ext xq = W at *
        refine wp_region_vague 13 [[], [0], [], [2], [2, 3], [], [5], [0, 1, 2, 3, 4, 5, 6], [0, 1, 2, 3, 4, 5, 6, 7], [0, 1, 2, 3, 4, 5, 6, 7, 8], [0, 1, 2, 3, 4, 5, 6, 7, 8], [0, 1, 2, 3, 4, 5, 6, 7, 8, 9], [0, 1, 2, 3, 4, 5, 6, 7, 8, 9, 10, 11]] (by kernel_rfl) (by kernel_rfl) (by kernel_rfl) (by kernel_rfl) ?_; simp only [List.take_succ_cons, List.take_zero, List.drop_succ_cons, List.drop_zero, List.take_nil, List.drop_nil]
        (repeat (apply VD_der; (case h => (intro us w' hx hf; obtain ⟨x, rfl⟩ := hx.out; refine ⟨rfl, ?_⟩; simp [go_sem, execOp, *]; (try simp (disch := omega) only [Go.IntWalk.i64_in, Go.IntWalk.rem_in, Go.IntWalk.wrap64_in]); rfl)); (try simp only [Act.put, List.setIfInBounds_toArray, List.set_cons_succ, List.set_cons_zero])))
        (refine VD_vag (fun p => .slice (p 0).1 (16) (p 0).2) (fun p w'' => Own w'' 0 (p 0).1 (16) (p 0).2 (ct)) (fun p w w' h hx => h.ext hx) (fun us w' hx hf => ⟨rfl, ?_⟩) ?_; (unfold gives; simp [go_sem, execOp]; exact vag_fresh (Nat.zero_le _) (hct _ _ _ (hs1W.ext hx))))
        (repeat (apply VD_der; (case h => (intro us w' hx hf; obtain ⟨x, rfl⟩ := hx.out; refine ⟨rfl, ?_⟩; simp [go_sem, execOp, *]; (try simp (disch := omega) only [Go.IntWalk.i64_in, Go.IntWalk.rem_in, Go.IntWalk.wrap64_in]); rfl)); (try simp only [Act.put, List.setIfInBounds_toArray, List.set_cons_succ, List.set_cons_zero])))
        (refine VD_vag (fun p => .tuple #[.slice (p 0).1 (k - 16) (p 0).2, .int .i64 0]) (fun p w'' => Sl w'' (p 0).1 (k - 16) pl ∧ k ≤ (p 0).2 + 16) (fun p w w' h hx => ⟨h.1.ext hx, h.2⟩) (fun us w' hx hf => ⟨rfl, ?_⟩) ?_; (unfold gives; simp [go_sem, execOp]; exact (hst _ _ _ _ _ _ _ (hkW.ext hx) (Own.sl (by exact (hf _ (List.mem_append_right _ (List.mem_singleton_self _)) rfl))) (Own.le (by exact (hf _ (List.mem_append_right _ (List.mem_singleton_self _)) rfl))).1 (hs2W.ext hx)).mono fun _ _ ⟨a, c, he, hO, hc, hx⟩ => ⟨_, he, fun _ => (a, c), rfl, hx, hO, by show k ≤ c + 16; omega⟩))
        (repeat (apply VD_der; (case h => (intro us w' hx hf; obtain ⟨x, rfl⟩ := hx.out; refine ⟨rfl, ?_⟩; simp [go_sem, execOp, *]; (try simp (disch := omega) only [Go.IntWalk.i64_in, Go.IntWalk.rem_in, Go.IntWalk.wrap64_in]); rfl)); (try simp only [Act.put, List.setIfInBounds_toArray, List.set_cons_succ, List.set_cons_zero])))
        (refine VD_nil ?_; intro us w' hx hf; obtain ⟨x, rfl⟩ := hx.out; (try simp only [Act.put, List.setIfInBounds_toArray, List.set_cons_succ, List.set_cons_zero, wpList_none]); (try simp only [List.mem_cons, List.not_mem_nil, or_false, forall_eq_or_imp, forall_eq, List.nil_append, List.cons_append, List.mem_append, false_or, true_and, and_true] at hf); (try simp only [Nat.reduceAdd, Nat.zero_add] at hf); (try simp only [Nat.reduceAdd, Nat.zero_add]))
        obtain ⟨-, hS4, hc4⟩ := hf
        go_wp2_with (first
          | (go_at_call 150; (with_reducible refine (ht ?_ ?_ ?_ ?hq113 ?hq114 ?hq115 ?hq116).mono ?_); (case hq113 => (repeat' (first | with_reducible assumption | (with_reducible exact zeros16 _) | (with_reducible exact sl_new1 _ _ _) | (with_reducible first | apply Sl.upE | apply Sl.upA | apply Sl.upD)))); (case hq114 => (repeat' (first | with_reducible assumption | (refine bsc2 ?_ ?_ ?_ ?_ _; (· (repeat' (first | with_reducible assumption | (with_reducible exact zeros16 _) | (with_reducible exact sl_new1 _ _ _) | (with_reducible first | apply Sl.upE | apply Sl.upA | apply Sl.upD)))); (· omega); (· (repeat' (first | with_reducible assumption | (with_reducible exact zeros16 _) | (with_reducible exact sl_new1 _ _ _) | (with_reducible first | apply Sl.upE | apply Sl.upA | apply Sl.upD)))); (· omega)) | (with_reducible first | apply Bsc.upE | apply Bsc.upA | apply Bsc.upD)))); (case hq115 => (repeat' (first | with_reducible assumption | (with_reducible exact zeros16 _) | (with_reducible exact sl_new1 _ _ _) | (with_reducible first | apply Sl.upE | apply Sl.upA | apply Sl.upD)))); (case hq116 => omega); rintro e _ ⟨_, _, rfl, hS, hc, hx⟩; obtain ⟨_, rfl⟩ := hx.out; clear hx)
          | (go_at_call 26; (with_reducible refine (same_any ?_ ?_ ?_ ?_ ?_ ?_ tg s0 ?_ ?hq125 ?hq126).mono ?_); (case hq125 => (repeat' (first | with_reducible assumption | (with_reducible exact zeros16 _) | (with_reducible exact sl_new1 _ _ _) | (with_reducible first | apply Sl.upE | apply Sl.upA | apply Sl.upD)))); (case hq126 => (repeat' (first | with_reducible assumption | (with_reducible exact zeros16 _) | (with_reducible exact sl_new1 _ _ _) | (with_reducible first | apply Sl.upE | apply Sl.upA | apply Sl.upD)))); rintro e w1 ⟨rfl, hxq⟩; obtain ⟨xq, rfl⟩ := hxq.out; clear hxq)
          | fail)
        go_ret2
        exact ⟨_, _, rfl, (by (repeat' (first | with_reducible assumption | (with_reducible exact zeros16 _) | (with_reducible exact sl_new1 _ _ _) | (with_reducible first | apply Sl.upE | apply Sl.upA | apply Sl.upD)))), by omega, hxW.trans (by repeat (first | (with_reducible first | exact Ext.refl _ | assumption | apply Ext.alloc | apply Ext.ext | apply Ext.drew | refine Ext.setCell ?_ ?_ _) | (focus (simp [go_sem]; done))))⟩
      · rw [if_neg he]
        have hb : (tg == s0) = false := by simpa using he
        clear he
        clear e
        go_enter Try.func95, Try.ntmps95
        go_wp2_with (first | (go_at_call 147; (with_reducible refine (hc ?_ ?hq127 ?hq128).mono ?_); (case hq127 => (repeat' (first | with_reducible assumption | (with_reducible exact zeros16 _) | (with_reducible exact sl_new1 _ _ _) | (with_reducible first | apply Sl.upE | apply Sl.upA | apply Sl.upD)))); (case hq128 => (repeat' (first | with_reducible assumption | (refine bsc2 ?_ ?_ ?_ ?_ _; (· (repeat' (first | with_reducible assumption | (with_reducible exact zeros16 _) | (with_reducible exact sl_new1 _ _ _) | (with_reducible first | apply Sl.upE | apply Sl.upA | apply Sl.upD)))); (· omega); (· (repeat' (first | with_reducible assumption | (with_reducible exact zeros16 _) | (with_reducible exact sl_new1 _ _ _) | (with_reducible first | apply Sl.upE | apply Sl.upA | apply Sl.upD)))); (· omega)) | (with_reducible first | apply Bsc.upE | apply Bsc.upA | apply Bsc.upD)))); rintro e w1 ⟨rfl, hxq⟩; obtain ⟨xq, rfl⟩ := hxq.out; clear hxq) | fail)
        have hxW : Ext w (w.ext xq) := (by repeat (first | (with_reducible first | exact Ext.refl _ | assumption | apply Ext.alloc | apply Ext.ext | apply Ext.drew | refine Ext.setCell ?_ ?_ _) | (focus (simp [go_sem]; done))))
        have hkW := hk2.ext hxW
        have hs1W := hs1.ext hxW
        have hs2W := hs2.ext hxW
        have hkk := hk.ext hxW
        have hAA := hA.ext hxW
        generalize w.ext xq = W at *
        refine wp_region_vague 13 [[], [0], [], [2], [2, 3], [], [5], [0, 1, 2, 3, 4, 5, 6], [0, 1, 2, 3, 4, 5, 6, 7], [0, 1, 2, 3, 4, 5, 6, 7, 8], [0, 1, 2, 3, 4, 5, 6, 7, 8], [0, 1, 2, 3, 4, 5, 6, 7, 8, 9], [0, 1, 2, 3, 4, 5, 6, 7, 8, 9, 10, 11]] (by kernel_rfl) (by kernel_rfl) (by kernel_rfl) (by kernel_rfl) ?_; simp only [List.take_succ_cons, List.take_zero, List.drop_succ_cons, List.drop_zero, List.take_nil, List.drop_nil]
        (repeat (apply VD_der; (case h => (intro us w' hx hf; obtain ⟨x, rfl⟩ := hx.out; refine ⟨rfl, ?_⟩; simp [go_sem, execOp, *]; (try simp (disch := omega) only [Go.IntWalk.i64_in, Go.IntWalk.rem_in, Go.IntWalk.wrap64_in]); rfl)); (try simp only [Act.put, List.setIfInBounds_toArray, List.set_cons_succ, List.set_cons_zero])))
        (refine VD_vag (fun p => .slice (p 0).1 (16) (p 0).2) (fun p w'' => Own w'' 0 (p 0).1 (16) (p 0).2 (ct)) (fun p w w' h hx => h.ext hx) (fun us w' hx hf => ⟨rfl, ?_⟩) ?_; (unfold gives; simp [go_sem, execOp]; exact vag_fresh (Nat.zero_le _) (hct _ _ _ (hs1W.ext hx))))
        (repeat (apply VD_der; (case h => (intro us w' hx hf; obtain ⟨x, rfl⟩ := hx.out; refine ⟨rfl, ?_⟩; simp [go_sem, execOp, *]; (try simp (disch := omega) only [Go.IntWalk.i64_in, Go.IntWalk.rem_in, Go.IntWalk.wrap64_in]); rfl)); (try simp only [Act.put, List.setIfInBounds_toArray, List.set_cons_succ, List.set_cons_zero])))
        (refine VD_vag (fun p => .tuple #[.slice (p 0).1 (k - 16) (p 0).2, .int .i64 0]) (fun p w'' => Sl w'' (p 0).1 (k - 16) pl ∧ k ≤ (p 0).2 + 16) (fun p w w' h hx => ⟨h.1.ext hx, h.2⟩) (fun us w' hx hf => ⟨rfl, ?_⟩) ?_; (unfold gives; simp [go_sem, execOp]; exact (hst _ _ _ _ _ _ _ (hkW.ext hx) (Own.sl (by exact (hf _ (List.mem_append_right _ (List.mem_singleton_self _)) rfl))) (Own.le (by exact (hf _ (List.mem_append_right _ (List.mem_singleton_self _)) rfl))).1 (hs2W.ext hx)).mono fun _ _ ⟨a, c, he, hO, hc, hx⟩ => ⟨_, he, fun _ => (a, c), rfl, hx, hO, by show k ≤ c + 16; omega⟩))
        (repeat (apply VD_der; (case h => (intro us w' hx hf; obtain ⟨x, rfl⟩ := hx.out; refine ⟨rfl, ?_⟩; simp [go_sem, execOp, *]; (try simp (disch := omega) only [Go.IntWalk.i64_in, Go.IntWalk.rem_in, Go.IntWalk.wrap64_in]); rfl)); (try simp only [Act.put, List.setIfInBounds_toArray, List.set_cons_succ, List.set_cons_zero])))
        (refine VD_nil ?_; intro us w' hx hf; obtain ⟨x, rfl⟩ := hx.out; (try simp only [Act.put, List.setIfInBounds_toArray, List.set_cons_succ, List.set_cons_zero, wpList_none]); (try simp only [List.mem_cons, List.not_mem_nil, or_false, forall_eq_or_imp, forall_eq, List.nil_append, List.cons_append, List.mem_append, false_or, true_and, and_true] at hf); (try simp only [Nat.reduceAdd, Nat.zero_add] at hf); (try simp only [Nat.reduceAdd, Nat.zero_add]))
        obtain ⟨-, hS4, hc4⟩ := hf
        go_wp2_with (first
          | (go_at_call 150; (with_reducible refine (ht ?_ ?_ ?_ ?hq117 ?hq118 ?hq119 ?hq120).mono ?_); (case hq117 => (repeat' (first | with_reducible assumption | (with_reducible exact zeros16 _) | (with_reducible exact sl_new1 _ _ _) | (with_reducible first | apply Sl.upE | apply Sl.upA | apply Sl.upD)))); (case hq118 => (repeat' (first | with_reducible assumption | (refine bsc2 ?_ ?_ ?_ ?_ _; (· (repeat' (first | with_reducible assumption | (with_reducible exact zeros16 _) | (with_reducible exact sl_new1 _ _ _) | (with_reducible first | apply Sl.upE | apply Sl.upA | apply Sl.upD)))); (· omega); (· (repeat' (first | with_reducible assumption | (with_reducible exact zeros16 _) | (with_reducible exact sl_new1 _ _ _) | (with_reducible first | apply Sl.upE | apply Sl.upA | apply Sl.upD)))); (· omega)) | (with_reducible first | apply Bsc.upE | apply Bsc.upA | apply Bsc.upD)))); (case hq119 => (repeat' (first | with_reducible assumption | (with_reducible exact zeros16 _) | (with_reducible exact sl_new1 _ _ _) | (with_reducible first | apply Sl.upE | apply Sl.upA | apply Sl.upD)))); (case hq120 => omega); rintro e _ ⟨_, _, rfl, hS, hc, hx⟩; obtain ⟨_, rfl⟩ := hx.out; clear hx)
          | (go_at_call 26; (with_reducible refine (same_any ?_ ?_ ?_ ?_ ?_ ?_ tg s0 ?_ ?hq129 ?hq130).mono ?_); (case hq129 => (repeat' (first | with_reducible assumption | (with_reducible exact zeros16 _) | (with_reducible exact sl_new1 _ _ _) | (with_reducible first | apply Sl.upE | apply Sl.upA | apply Sl.upD)))); (case hq130 => (repeat' (first | with_reducible assumption | (with_reducible exact zeros16 _) | (with_reducible exact sl_new1 _ _ _) | (with_reducible first | apply Sl.upE | apply Sl.upA | apply Sl.upD)))); rintro e w1 ⟨rfl, hxq⟩; obtain ⟨xq, rfl⟩ := hxq.out; clear hxq)
          | fail)
        go_ret2
        exact read2_err _ _ _ (hxW.trans (by repeat (first | (with_reducible first | exact Ext.refl _ | assumption | apply Ext.alloc | apply Ext.ext | apply Ext.drew | refine Ext.setCell ?_ ?_ _) | (focus (simp [go_sem]; done)))))
  · have e : openE ky A s = ([], checkR ky A ((k : Int) - 16)) ∧ checkR ky A ((k : Int) - 16) ≠ 0 := by
      unfold openE checkR
      by_cases h1 : checkA ky A ≠ 0
      · rw [if_pos h1, if_pos h1]; exact ⟨rfl, h1⟩
      · have h2 : 65535 < k := by
          rcases Nat.lt_or_ge 65535 k with h3 | h3
          · exact h3
          · exact absurd ⟨by simpa using h1, h3⟩ h0
        rw [if_neg h1, if_neg h1, if_pos (by omega), if_pos (by omega)]; exact ⟨rfl, by decide⟩
    obtain ⟨e, hne⟩ := e
    rw [e]
    have hI := ne0 hne
    generalize checkR ky A ((k : Int) - 16) = v at *
    clear e h0 hne
    go_enter Try.func95, Try.ntmps95
    go_wp2_with (first | (go_at_call 147; (with_reducible refine (hc ?_ ?hq131 ?hq132).mono ?_); (case hq131 => (repeat' (first | with_reducible assumption | (with_reducible exact zeros16 _) | (with_reducible exact sl_new1 _ _ _) | (with_reducible first | apply Sl.upE | apply Sl.upA | apply Sl.upD)))); (case hq132 => (repeat' (first | with_reducible assumption | (refine bsc2 ?_ ?_ ?_ ?_ _; (· (repeat' (first | with_reducible assumption | (with_reducible exact zeros16 _) | (with_reducible exact sl_new1 _ _ _) | (with_reducible first | apply Sl.upE | apply Sl.upA | apply Sl.upD)))); (· omega); (· (repeat' (first | with_reducible assumption | (with_reducible exact zeros16 _) | (with_reducible exact sl_new1 _ _ _) | (with_reducible first | apply Sl.upE | apply Sl.upA | apply Sl.upD)))); (· omega)) | (with_reducible first | apply Bsc.upE | apply Bsc.upA | apply Bsc.upD)))); rintro e w1 ⟨rfl, hxq⟩; obtain ⟨xq, rfl⟩ := hxq.out; clear hxq) | fail)
    go_ret2
    exact read2_err _ _ _ (by repeat (first | (with_reducible first | exact Ext.refl _ | assumption | apply Ext.alloc | apply Ext.ext | apply Ext.drew | refine Ext.setCell ?_ ?_ _) | (focus (simp [go_sem]; done))))
end Go.Proofs.Ytkjdlbjbppbmdaa

/- Layer 6: the sanity check, and the laws AeadActs and AeadOpens. -/
namespace Go.Aes
def lightB (ky : List UInt8) (A : List (List UInt8)) (b : List UInt8) : Bool := decide (ky.length ≤ 60) && decide (A.length ≤ 20) && decide (b.length ≤ 100) && A.all fun x => decide (x.length ≤ 60)
theorem lightB_spec {ky : List UInt8} {A : List (List UInt8)} {b : List UInt8} (h : lightB ky A b = true) : ky.length ≤ 60 ∧ A.length ≤ 20 ∧ b.length ≤ 100 ∧ ∀ x ∈ A, x.length ≤ 60 := by
  simpa [lightB, and_assoc] using h
theorem checkA_light {ky : List UInt8} {A : List (List UInt8)} (h1 : ky.length = 32) (h2 : A.length ≤ 16) (h3 : ∀ x ∈ A, x.length ≤ 60) : checkA ky A = 0 := by
  unfold checkA longA
  rw [if_neg (by omega), if_neg (by omega), if_neg]
  rw [Bool.not_eq_true, List.any_eq_false]
  intro x hx
  have := h3 x hx
  simp; omega
theorem sealE_ok {ky : List UInt8} {A : List (List UInt8)} {p : List UInt8} (h : checkA ky A = 0) (hp : p.length ≤ 65519) :
    sealE ky A p = (s2v (ky.take 16) (A ++ [p]) ++ stream (ky.drop 16) (ctrOf (s2v (ky.take 16) (A ++ [p]))) p, 0) := by
  unfold sealE
  rw [tagE_ok h hp, if_neg (by simp)]
theorem openE_seal {ky : List UInt8} {A : List (List UInt8)} {p : List UInt8} (h : checkA ky A = 0) (hp : p.length ≤ 65519) : openE ky A (sealE ky A p).1 = (p, 0) := by
  rw [sealE_ok h hp]
  have ht := s2v_length (ky.take 16) (A ++ [p])
  generalize hT : s2v (ky.take 16) (A ++ [p]) = t at *
  have h1 : (t ++ stream (ky.drop 16) (ctrOf t) p).take 16 = t := by rw [List.take_append_of_le_length (by omega), List.take_of_length_le (by omega)]
  have h2 : (t ++ stream (ky.drop 16) (ctrOf t) p).drop 16 = stream (ky.drop 16) (ctrOf t) p := by rw [List.drop_append_of_le_length (by omega), List.drop_of_length_le (by omega), List.nil_append]
  have h3 : plainOf ky (t ++ stream (ky.drop 16) (ctrOf t) p) = p := by
    unfold plainOf
    rw [h1, h2]
    exact streamK_undo _ _ _
  have hsl := stream_length (ky.drop 16) (ctrOf t) p
  unfold openE
  rw [if_neg (by rw [h]; simp), if_neg (by simp [ht, hsl]; omega), if_neg (by simp [ht]), h3, tagE_ok h hp, h1, hT, if_pos rfl]
end Go.Aes
namespace Go.Proofs.Ytkjdlbjbppbmdaa
open Go.RowKit Go.Sec Go.Oct Go.Aes Go.Sha BigFrame

def s_sk : List UInt8 := [102, 102, 102, 101, 102, 100, 102, 99, 102, 98, 102, 97, 102, 57, 102, 56, 102, 55, 102, 54, 102, 53, 102, 52, 102, 51, 102, 50, 102, 49, 102, 48, 102, 48, 102, 49, 102, 50, 102, 51, 102, 52, 102, 53, 102, 54, 102, 55, 102, 56, 102, 57, 102, 97, 102, 98, 102, 99, 102, 100, 102, 101, 102, 102]
def b_sk : List UInt8 := [255, 254, 253, 252, 251, 250, 249, 248, 247, 246, 245, 244, 243, 242, 241, 240, 240, 241, 242, 243, 244, 245, 246, 247, 248, 249, 250, 251, 252, 253, 254, 255]
theorem un_sk : unhexTo hexV s_sk s_sk.length = b_sk := by decide +kernel
theorem hv_sk : ∀ k, (h : k < s_sk.length) → 0 ≤ Lib.indexByte digits s_sk[k] := by decide +kernel
def s_sa : List UInt8 := [49, 48, 49, 49, 49, 50, 49, 51, 49, 52, 49, 53, 49, 54, 49, 55, 49, 56, 49, 57, 49, 97, 49, 98, 49, 99, 49, 100, 49, 101, 49, 102, 50, 48, 50, 49, 50, 50, 50, 51, 50, 52, 50, 53, 50, 54, 50, 55]
def b_sa : List UInt8 := [16, 17, 18, 19, 20, 21, 22, 23, 24, 25, 26, 27, 28, 29, 30, 31, 32, 33, 34, 35, 36, 37, 38, 39]
theorem un_sa : unhexTo hexV s_sa s_sa.length = b_sa := by decide +kernel
theorem hv_sa : ∀ k, (h : k < s_sa.length) → 0 ≤ Lib.indexByte digits s_sa[k] := by decide +kernel
def s_sp : List UInt8 := [49, 49, 50, 50, 51, 51, 52, 52, 53, 53, 54, 54, 55, 55, 56, 56, 57, 57, 97, 97, 98, 98, 99, 99, 100, 100, 101, 101]
def b_sp : List UInt8 := [17, 34, 51, 68, 85, 102, 119, 136, 153, 170, 187, 204, 221, 238]
theorem un_sp : unhexTo hexV s_sp s_sp.length = b_sp := by decide +kernel
theorem hv_sp : ∀ k, (h : k < s_sp.length) → 0 ≤ Lib.indexByte digits s_sp[k] := by decide +kernel
def s_so : List UInt8 := [56, 53, 54, 51, 50, 100, 48, 55, 99, 54, 101, 56, 102, 51, 55, 102, 57, 53, 48, 97, 99, 100, 51, 50, 48, 97, 50, 101, 99, 99, 57, 51, 52, 48, 99, 48, 50, 98, 57, 54, 57, 48, 99, 52, 100, 99, 48, 52, 100, 97, 101, 102, 55, 102, 54, 97, 102, 101, 53, 99]
def b_so : List UInt8 := [133, 99, 45, 7, 198, 232, 243, 127, 149, 10, 205, 50, 10, 46, 204, 147, 64, 192, 43, 150, 144, 196, 220, 4, 218, 239, 127, 106, 254, 92]
theorem hx_so : hexL b_so = s_so := by decide +kernel
theorem ks1 : sealE b_sk [b_sa] b_sp = (b_so, 0) := by decide +kernel
theorem lso : b_so.length = 30 := rfl

end Go.Proofs.Ytkjdlbjbppbmdaa

/- Layer 20 as plain functions. -/
namespace Go.Chan
open Go.Sha Go.Oct Go.Aes Go.Sec
structure Ch where
  cl : Bool
  sec : List UInt8
  snd : List UInt8
  rcv : List UInt8
  st : Int
  rc : Int
deriving DecidableEq
def upS : List UInt8 := [115, 101, 99, 116, 105, 109, 101, 32, 117, 112]
def downS : List UInt8 := [115, 101, 99, 116, 105, 109, 101, 32, 100, 111, 119, 110]
def expS : List UInt8 := [115, 101, 99, 116, 105, 109, 101, 32, 101, 120, 112, 111, 114, 116]
def upK (s : List UInt8) : List UInt8 := expandK s upS 32
def downK (s : List UInt8) : List UInt8 := expandK s downS 32
def keyed (cl : Bool) (s : List UInt8) (st rc : Int) : Ch := ⟨cl, s, if cl then upK s else downK s, if cl then downK s else upK s, st, rc⟩
def zeroCh : Ch := ⟨false, [], [], [], 0, 0⟩
def fitC (c : Ch) : Prop := c.sec.length = 32 ∧ 0 ≤ c.st ∧ c.st ≤ 1099511627776 ∧ 0 ≤ c.rc ∧ c.rc ≤ 1099511627776
instance (c : Ch) : Decidable (fitC c) := inferInstanceAs (Decidable (_ ∧ _))
def validC (c : Ch) : Bool := decide (fitC c) && ((keyed c.cl c.sec c.st c.rc).snd == c.snd && (keyed c.cl c.sec c.st c.rc).rcv == c.rcv)
def beginE (cl : Bool) (secret hello : List UInt8) : Ch × Int := if secret.length < 16 ∨ 65535 < secret.length then (zeroCh, 5) else (keyed cl (hmac (sha hello) secret) 0 0, 0)
def headC (kind : Int) (n : Nat) : List UInt8 := b8 kind :: putL 2 (UInt64.ofNat (n + 16))
def num8 (st : Int) : List UInt8 := putL 8 (UInt64.ofNat st.toNat)
def recC (c : Ch) (kind : Int) (b : List UInt8) : List UInt8 := headC kind b.length ++ (sealE c.snd [num8 c.st, headC kind b.length] b).1
def sendE (c : Ch) (kind : Int) (b : List UInt8) : Ch × List UInt8 × Int :=
  if validC c = false then (zeroCh, [], 3) else if kind < 0 ∨ 255 < kind then (zeroCh, [], 4) else if 16384 < b.length then (zeroCh, [], 2) else if c.st = 1099511627776 then (zeroCh, [], 7)
  else (keyed c.cl c.sec (c.st + 1) c.rc, recC c kind b, 0)
def lenC (r : List UInt8) : Nat := (getL ((r.drop 1).take 2)).toNat
def inC (c : Ch) (r : List UInt8) : List UInt8 × Int := openE c.rcv [num8 c.rc, r.take 3] (r.drop 3)
def recvE (c : Ch) (r : List UInt8) : Ch × Int × List UInt8 × Int :=
  if validC c = false then (zeroCh, 0, [], 3) else if r.length < 3 then (zeroCh, 0, [], 1) else if r.length - 3 < lenC r then (zeroCh, 0, [], 1)
  else if lenC r < r.length - 3 ∨ 16400 < r.length - 3 then (zeroCh, 0, [], 2) else if c.rc = 1099511627776 then (zeroCh, 0, [], 7)
  else if (inC c r).2 ≠ 0 then (zeroCh, 0, [], 6) else (keyed c.cl c.sec c.st (c.rc + 1), n8 (r.getD 0 0), (inC c r).1, 0)
def exportE (c : Ch) (label ctx : List UInt8) (n : Int) : List UInt8 × Int :=
  if validC c = false then ([], 3) else if n < 0 ∨ 8160 < n then ([], 4) else (expandK c.sec (labelK expS label ctx) n.toNat, 0)
def renewE (c : Ch) (fresh : List UInt8) : Ch × Int :=
  if validC c = false then (zeroCh, 3) else if fresh.length < 16 ∨ 64 < fresh.length then (zeroCh, 5) else (keyed c.cl (hmac fresh c.sec) 0 0, 0)

theorem headC_length (kind : Int) (n : Nat) : (headC kind n).length = 3 := by simp [headC, putL_length]
theorem num8_length (st : Int) : (num8 st).length = 8 := putL_length _ _
theorem upK_length (s : List UInt8) : (upK s).length = 32 := expandK_length _ _ _
theorem downK_length (s : List UInt8) : (downK s).length = 32 := expandK_length _ _ _
theorem keyed_snd (cl : Bool) (s : List UInt8) (st rc : Int) : (keyed cl s st rc).snd.length = 32 := by cases cl <;> simp [keyed, upK_length, downK_length]
theorem keyed_rcv (cl : Bool) (s : List UInt8) (st rc : Int) : (keyed cl s st rc).rcv.length = 32 := by cases cl <;> simp [keyed, upK_length, downK_length]
theorem keyed_snd_eq (cl : Bool) (s : List UInt8) (st rc st' rc' : Int) : (keyed cl s st rc).snd = (keyed (!cl) s st' rc').rcv := by cases cl <;> simp [keyed]
/-- A valid channel is one that was made of its secret. -/
theorem valid_keyed {c : Ch} (h : validC c = true) : fitC c ∧ c = keyed c.cl c.sec c.st c.rc := by
  unfold validC at h
  simp only [Bool.and_eq_true, decide_eq_true_eq, beq_iff_eq] at h
  obtain ⟨h1, h2, h3⟩ := h
  refine ⟨h1, ?_⟩
  cases c
  simp only [keyed] at h2 h3 ⊢
  simp only [h2, h3]
theorem keyed_valid {cl : Bool} {s : List UInt8} {st rc : Int} (h : fitC (keyed cl s st rc)) : validC (keyed cl s st rc) = true := by
  unfold validC
  simp only [Bool.and_eq_true, decide_eq_true_eq, beq_iff_eq]
  exact ⟨h, rfl, rfl⟩
theorem fit_keyed {cl : Bool} {s : List UInt8} {st rc : Int} : fitC (keyed cl s st rc) ↔ s.length = 32 ∧ 0 ≤ st ∧ st ≤ 1099511627776 ∧ 0 ≤ rc ∧ rc ≤ 1099511627776 := Iff.rfl
theorem ad_ok {ky : List UInt8} (hk : ky.length = 32) (st kind : Int) (n : Nat) : checkA ky [num8 st, headC kind n] = 0 :=
  checkA_light hk (by simp) (by simp [num8_length, headC_length])
theorem recC_length {c : Ch} (hc : c.snd.length = 32) (kind : Int) (b : List UInt8) (hb : b.length ≤ 65519) : (recC c kind b).length = b.length + 19 := by
  unfold recC
  rw [List.length_append, headC_length, sealE_ok (ad_ok hc _ _ _) hb]
  simp only [List.length_append, s2v_length, stream_length]; omega
theorem sendE_ok {cl : Bool} {s : List UInt8} {st rc kind : Int} {b : List UInt8} (h : fitC (keyed cl s st rc)) (hs : st < 1099511627776) (h0 : 0 ≤ kind) (h1 : kind ≤ 255) (hb : b.length ≤ 16384) :
    sendE (keyed cl s st rc) kind b = (keyed cl s (st + 1) rc, recC (keyed cl s st rc) kind b, 0) := by
  unfold sendE
  rw [if_neg (by rw [keyed_valid h]; simp), if_neg (by omega), if_neg (by omega), if_neg (by show ¬ st = _; omega)]
  rfl
/-- What one end sends the other one receives. -/
theorem recv_send {cl : Bool} {s : List UInt8} {st rc st' kind : Int} {b : List UInt8} (h : fitC (keyed (!cl) s st' st)) (hs : st < 1099511627776) (h0 : 0 ≤ kind) (h1 : kind ≤ 255) (hb : b.length ≤ 16384) :
    recvE (keyed (!cl) s st' st) (recC (keyed cl s st rc) kind b) = (keyed (!cl) s st' (st + 1), kind, b, 0) := by
  have hl := recC_length (keyed_snd cl s st rc) kind b (by omega)
  have hk := keyed_snd cl s st rc
  have hhl := headC_length kind b.length
  have ht : (recC (keyed cl s st rc) kind b).take 3 = headC kind b.length := by
    unfold recC; rw [List.take_append_of_le_length (by omega), List.take_of_length_le (by omega)]
  have hd : (recC (keyed cl s st rc) kind b).drop 3 = (sealE (keyed cl s st rc).snd [num8 (keyed cl s st rc).st, headC kind b.length] b).1 := by
    unfold recC; rw [List.drop_append_of_le_length (by omega), List.drop_of_length_le (by omega), List.nil_append]
  have hg : (recC (keyed cl s st rc) kind b).getD 0 0 = b8 kind := rfl
  have hn : lenC (recC (keyed cl s st rc) kind b) = b.length + 16 := by
    unfold lenC
    have : ((recC (keyed cl s st rc) kind b).drop 1).take 2 = putL 2 (UInt64.ofNat (b.length + 16)) := by
      unfold recC headC
      rw [List.cons_append, List.drop_succ_cons, List.drop_zero, List.take_append_of_le_length (by rw [putL_length]; omega), List.take_of_length_le (by rw [putL_length]; omega)]
    rw [this, getL_put 2 _ (by omega) (by omega)]
  have ho : inC (keyed (!cl) s st' st) (recC (keyed cl s st rc) kind b) = (b, 0) := by
    unfold inC
    rw [ht, hd, ← keyed_snd_eq cl s st rc st' st]
    exact openE_seal (ad_ok hk _ _ _) (by omega)
  unfold recvE
  rw [if_neg (by rw [keyed_valid h]; simp), hl, hn, ho, hg, if_neg (by omega), if_neg (by omega), if_neg (by omega), if_neg (by show ¬ st = _; omega), if_neg (by simp), n8_b8]
  have : kind % 256 = kind := by omega
  rw [this]
  rfl
theorem renewE_ok {cl : Bool} {s : List UInt8} {st rc : Int} {f : List UInt8} (h : fitC (keyed cl s st rc)) (h1 : 16 ≤ f.length) (h2 : f.length ≤ 64) : renewE (keyed cl s st rc) f = (keyed cl (hmac f s) 0 0, 0) := by
  unfold renewE
  rw [if_neg (by rw [keyed_valid h]; simp), if_neg (by omega)]
  rfl
theorem exportE_ok {cl : Bool} {s : List UInt8} {st rc : Int} {l x : List UInt8} {n : Nat} (h : fitC (keyed cl s st rc)) (hn : n ≤ 8160) : exportE (keyed cl s st rc) l x (n : Int) = (expandK s (labelK expS l x) n, 0) := by
  unfold exportE
  rw [if_neg (by rw [keyed_valid h]; simp), if_neg (by omega)]
  rfl
end Go.Chan

/- The walks of layer 20: keys, Begin, Valid. -/
namespace Go.Sec
open Go.RowKit Go.Chan
/-- A channel's value. -/
def ChR (w : World) (v : Value) (c : Ch) : Prop := ∃ a1 c1 a2 c2 a3 c3, v = .agg #[.bool c.cl, .slice a1 c.sec.length c1, .slice a2 c.snd.length c2, .slice a3 c.rcv.length c3, .int .i64 c.st, .int .i64 c.rc] ∧
  Sl w a1 c.sec.length c.sec ∧ c.sec.length ≤ c1 ∧ Sl w a2 c.snd.length c.snd ∧ c.snd.length ≤ c2 ∧ Sl w a3 c.rcv.length c.rcv ∧ c.rcv.length ≤ c3
theorem ChR.ext {w w' : World} {v : Value} {c : Ch} (h : ChR w v c) (hx : Ext w w') : ChR w' v c := by
  obtain ⟨a1, c1, a2, c2, a3, c3, hv, h1, k1, h2, k2, h3, k3⟩ := h
  exact ⟨a1, c1, a2, c2, a3, c3, hv, h1.ext hx, k1, h2.ext hx, k2, h3.ext hx, k3⟩
theorem ChR.zero (w : World) : ChR w (.agg #[.bool false, .slice none 0 0, .slice none 0 0, .slice none 0 0, .int .i64 0, .int .i64 0]) zeroCh :=
  ⟨none, 0, none, 0, none, 0, rfl, Sl.nil _ _, Nat.le_refl _, Sl.nil _ _, Nat.le_refl _, Sl.nil _ _, Nat.le_refl _⟩
theorem ChR.mk {w : World} {c : Ch} {a1 a2 a3 : Option Addr} {n1 c1 n2 c2 n3 c3 : Nat} (h1 : Sl w a1 n1 c.sec) (k1 : n1 ≤ c1) (h2 : Sl w a2 n2 c.snd) (k2 : n2 ≤ c2) (h3 : Sl w a3 n3 c.rcv) (k3 : n3 ≤ c3) :
    ChR w (.agg #[.bool c.cl, .slice a1 n1 c1, .slice a2 n2 c2, .slice a3 n3 c3, .int .i64 c.st, .int .i64 c.rc]) c := by
  have e1 := h1.len
  have e2 := h2.len
  have e3 := h3.len
  subst e1 e2 e3
  exact ⟨a1, c1, a2, c2, a3, c3, rfl, h1, k1, h2, k2, h3, k3⟩
theorem ChR.upE {w : World} {x : More} {v : Value} {c : Ch} (h : ChR w v c) : ChR (w.ext x) v c := h.ext (Ext.of_ext _ _)
theorem ChR.upA {w : World} {o : Obj} {v : Value} {c : Ch} (h : ChR w v c) : ChR (w.alloc o) v c := h.ext (Ext.of_alloc _ _)
theorem ChR.upD {w : World} {v : Value} {c : Ch} (h : ChR w v c) : ChR w.drew v c := h.ext (Ext.drew (Ext.refl _))
/-- A channel that the call hands back. -/
def ChP (c : Ch) (w : World) (e : Ending) (w' : World) : Prop := ∃ v, e = .returned v ∧ ChR w' v c ∧ Ext w w'
end Go.Sec
namespace Go.Proofs.Ytkjdlbjbppbmdaa
open Go.RowKit Go.Sec Go.Oct Go.Sha Go.Aes Go.Chan BigFrame

theorem RC6 : RowT Try.prog 24 6 := ⟨⟨_, Try.underlying24, rfl⟩, by kernel_rfl, ⟨_, Try.zeroValue24, by kernel_rfl⟩⟩
theorem chIdx0 (y0 y1 : Value) (W : World) : (Instr.index 180 (.agg #[y0, y1]) (.int .i64 0)).run Try.prog W = .ok y0 W := by kernel_rfl
theorem chIdx1 (y0 y1 : Value) (W : World) : (Instr.index 180 (.agg #[y0, y1]) (.int .i64 1)).run Try.prog W = .ok y1 W := by kernel_rfl

set_option maxRecDepth 100000 in
set_option maxHeartbeats 4000000 in
theorem keyed_any (cl : Bool) (a : Option Addr) (n c : Nat) (s : List UInt8) (w : World) (h : Sl w a n s) (hnc : n ≤ c) (hn : n ≤ 1000000) :
    Calls Try.prog 112 #[.bool cl, .slice a n c] w (ChP (keyed cl s 0 0) w) := by
  have hcv := run_bytes_str U hu8 hst
  have hal : Try.prog.arrayLen 179 = 2 := by kernel_rfl
  go_enter Try.func112, Try.ntmps112
  go_wp2
  go_loopw [6, 7, 10] (fun _ _ v10 wr => ∃ (k : Nat) (a1 a2 : Option Addr) (c1 c2 : Nat), k ≤ 2 ∧ v10 = .int .i64 k ∧ Blk wr w.heap.size 24 [.bool false, .slice none 0 0, .slice none 0 0, .slice none 0 0, .int .i64 0, .int .i64 0] ∧ Blk wr (w.heap.size + 1) 179 [if 0 < k then .slice a1 32 c1 else .slice none 0 0, if 1 < k then .slice a2 32 c2 else .slice none 0 0] ∧ (0 < k → Sl wr a1 32 (upK s) ∧ 32 ≤ c1) ∧ (1 < k → Sl wr a2 32 (downK s) ∧ 32 ≤ c2) ∧ Ext w wr) (fun _ _ v10 _ => 2 - (intOf v10).toNat)
  case atStart => exact ⟨0, none, none, 0, 0, by omega, rfl, (Blk.new _ _ _).alloc _, Blk.newAt _ _ _ _ (by simp), (fun h => absurd h (by omega)), (fun h => absurd h (by omega)), (by repeat (first | (with_reducible first | exact Ext.refl _ | assumption | apply Ext.alloc | apply Ext.ext | apply Ext.drew | refine Ext.setCell ?_ ?_ _) | (focus (simp [go_sem]; done))))⟩
  case round =>
    obtain ⟨k, a1, a2, c1, c2, hk, rfl, hB, hK, h1, h2, hx⟩ := hrel
    haveI := hB.blt
    haveI := hK.blt
    obtain rfl | rfl | rfl : k = 0 ∨ k = 1 ∨ k = 2 := by omega
    · clear h1 h2
      have hf := hK.free 0
      have hc := hK.cell? 0 rfl
      have hix := chIdx0
      go_wp2_with fail
      obtain ⟨wS, hwS⟩ : ∃ wS, wS = wr.ext (strMore wr ⟨#[115, 101, 99, 116, 105, 109, 101, 32, 117, 112]⟩) := ⟨_, rfl⟩
      have hS : Sl wS (some ⟨wr.heap.size, 0, none⟩) 10 upS := by rw [hwS]; exact sl_strB wr upS
      have hxs : Ext wr wS := by rw [hwS]; exact Ext.of_ext _ _
      rw [← hwS]
      clear hwS
      (with_reducible refine (expand_any _ _ n c 10 _ 32 (rfl : (32 : Int) = ((32 : Nat) : Int)) s upS _ ((h.ext hx).ext hxs) hnc hn hS (by decide) (by decide)).mono ?_)
      rintro e w1 ⟨b1, d1, rfl, hS1, hd1, hx1⟩
      have hB1 := (hB.extB hxs).extB hx1
      have hK1 := (hK.extB hxs).extB hx1
      have hE1 := hxs.trans hx1
      haveI := hB1.blt
      haveI := hK1.blt
      have hf := hK1.free 0
      have hc := hK1.cell? 0 rfl
      go_wp2
      go_roundw
      case rel =>
        refine ⟨0 + 1, b1, none, d1, 0, by omega, by go_num, hB1.other (by simp) _, hK1.set 0 _, fun _ => ⟨?_, hd1⟩, (fun h => absurd h (by omega)), Ext.setCell (hx.trans hE1) (by simp) _⟩
        exact Sl.mut hS1 hK1 (by simp) ((Mut.refl _ _).setCell 0 _)
      case measure => simp [intOf]
    · obtain ⟨hA1, hA2⟩ := h1 (by omega)
      clear h1 h2
      have hf := hK.free 1
      have hc := hK.cell? 1 rfl
      have hix := chIdx1
      go_wp2_with fail
      obtain ⟨wS, hwS⟩ : ∃ wS, wS = wr.ext (strMore wr ⟨#[115, 101, 99, 116, 105, 109, 101, 32, 100, 111, 119, 110]⟩) := ⟨_, rfl⟩
      have hS : Sl wS (some ⟨wr.heap.size, 0, none⟩) 12 downS := by rw [hwS]; exact sl_strB wr downS
      have hxs : Ext wr wS := by rw [hwS]; exact Ext.of_ext _ _
      rw [← hwS]
      clear hwS
      (with_reducible refine (expand_any _ _ n c 12 _ 32 (rfl : (32 : Int) = ((32 : Nat) : Int)) s downS _ ((h.ext hx).ext hxs) hnc hn hS (by decide) (by decide)).mono ?_)
      rintro e w1 ⟨b1, d1, rfl, hS1, hd1, hx1⟩
      have hB1 := (hB.extB hxs).extB hx1
      have hK1 := (hK.extB hxs).extB hx1
      have hE1 := hxs.trans hx1
      haveI := hB1.blt
      haveI := hK1.blt
      have hf := hK1.free 1
      have hc := hK1.cell? 1 rfl
      go_wp2
      go_roundw
      case rel =>
        refine ⟨1 + 1, a1, b1, c1, d1, by omega, by go_num, hB1.other (by simp) _, hK1.set 1 _, fun _ => ⟨?_, hA2⟩, fun _ => ⟨?_, hd1⟩, Ext.setCell (hx.trans hE1) (by simp) _⟩
        · exact Sl.mut (hA1.ext hE1) hK1 (by simp) ((Mut.refl _ _).setCell 1 _)
        · exact Sl.mut hS1 hK1 (by simp) ((Mut.refl _ _).setCell 1 _)
      case measure => simp [intOf]
    · obtain ⟨hA1, hA2⟩ := h1 (by omega)
      obtain ⟨hD1, hD2⟩ := h2 (by omega)
      clear h1 h2
      have hK : Blk wr (w.heap.size + 1) 179 [.slice a1 32 c1, .slice a2 32 c2] := hK
      have hc0 := hK.cell? 0 rfl
      have hc1 := hK.cell? 1 rfl
      haveI := hK.blt
      have hsl := h.ext hx
      have hxw := hx
      cases cl
      · go_wp2
        refine wp_region_vague 10 [[], [], [], [2], [2, 3], [], [5], [5, 6], [5, 6, 7], [0, 1, 2, 3, 4, 5, 6, 7, 8], [0, 1, 2, 3, 4, 5, 6, 7, 8, 9]] (by kernel_rfl) (by kernel_rfl) (by kernel_rfl) (by kernel_rfl) ?_; simp only [List.take_succ_cons, List.take_zero, List.drop_succ_cons, List.drop_zero, List.take_nil, List.drop_nil]
        (repeat (apply VD_der; (case h => (intro us w' hx hf; obtain ⟨x, rfl⟩ := hx.out; refine ⟨rfl, ?_⟩; simp [go_sem, execOp, *]; (try simp (disch := omega) only [Go.IntWalk.i64_in, Go.IntWalk.rem_in, Go.IntWalk.wrap64_in]); rfl)); (try simp only [Act.put, List.setIfInBounds_toArray, List.set_cons_succ, List.set_cons_zero])))
        (refine VD_nil ?_; intro us w' hx hf; obtain ⟨x, rfl⟩ := hx.out; (try simp only [Act.put, List.setIfInBounds_toArray, List.set_cons_succ, List.set_cons_zero, wpList_none]); (try simp only [List.mem_cons, List.not_mem_nil, or_false, forall_eq_or_imp, forall_eq, List.nil_append, List.cons_append, List.mem_append, false_or, true_and, and_true] at hf); (try simp only [Nat.reduceAdd, Nat.zero_add] at hf); (try simp only [Nat.reduceAdd, Nat.zero_add]))
        go_wp2_with (first
          | (refine wpList_store_arr (RC6) rfl _ _ rfl (w.heap.size) (0) rfl ([.bool false, .slice a n c, .slice a2 32 c2, .slice a1 32 c1, .int .i64 0, .int .i64 0]) rfl (24) _ ((hB.ext _)) (rfl) (by simp) (by first | exact one_u8 _ | (simp; done) | (simp; (repeat' (first | rfl | constructor)))) ?_; intro w9 hB9 hM9)
          | fail)
        have hE9 : Ext w w9 := Below.trans (hxw.ext _) (hM9.below (Nat.le_refl _) (hxw.ext _).size)
        refine bodyPost_ret (results_arr Try.results112 (RC6) _ _ (w.heap.size) (0) ([.bool false, .slice a n c, .slice a2 32 c2, .slice a1 32 c1, .int .i64 0, .int .i64 0]) rfl (hB9.rd) (rfl)) rfl ?_
        have m1 := Sl.mut (hsl.ext (Ext.of_ext _ _)) (hB.ext _) (by simp) hM9
        have m2 := Sl.mut (hA1.ext (Ext.of_ext _ _)) (hB.ext _) (by simp) hM9
        have m3 := Sl.mut (hD1.ext (Ext.of_ext _ _)) (hB.ext _) (by simp) hM9
        exact ⟨_, rfl, ChR.mk (c := keyed false s 0 0) m1 hnc m3 hD2 m2 hA2, hE9⟩
      · go_wp2
        refine wp_region_vague 10 [[], [], [], [2], [2, 3], [], [5], [5, 6], [5, 6, 7], [0, 1, 2, 3, 4, 5, 6, 7, 8], [0, 1, 2, 3, 4, 5, 6, 7, 8, 9]] (by kernel_rfl) (by kernel_rfl) (by kernel_rfl) (by kernel_rfl) ?_; simp only [List.take_succ_cons, List.take_zero, List.drop_succ_cons, List.drop_zero, List.take_nil, List.drop_nil]
        (repeat (apply VD_der; (case h => (intro us w' hx hf; obtain ⟨x, rfl⟩ := hx.out; refine ⟨rfl, ?_⟩; simp [go_sem, execOp, *]; (try simp (disch := omega) only [Go.IntWalk.i64_in, Go.IntWalk.rem_in, Go.IntWalk.wrap64_in]); rfl)); (try simp only [Act.put, List.setIfInBounds_toArray, List.set_cons_succ, List.set_cons_zero])))
        (refine VD_nil ?_; intro us w' hx hf; obtain ⟨x, rfl⟩ := hx.out; (try simp only [Act.put, List.setIfInBounds_toArray, List.set_cons_succ, List.set_cons_zero, wpList_none]); (try simp only [List.mem_cons, List.not_mem_nil, or_false, forall_eq_or_imp, forall_eq, List.nil_append, List.cons_append, List.mem_append, false_or, true_and, and_true] at hf); (try simp only [Nat.reduceAdd, Nat.zero_add] at hf); (try simp only [Nat.reduceAdd, Nat.zero_add]))
        go_wp2_with (first
          | (refine wpList_store_arr (RC6) rfl _ _ rfl (w.heap.size) (0) rfl ([.bool true, .slice a n c, .slice a1 32 c1, .slice a2 32 c2, .int .i64 0, .int .i64 0]) rfl (24) _ ((hB.ext _)) (rfl) (by simp) (by first | exact one_u8 _ | (simp; done) | (simp; (repeat' (first | rfl | constructor)))) ?_; intro w9 hB9 hM9)
          | fail)
        have hE9 : Ext w w9 := Below.trans (hxw.ext _) (hM9.below (Nat.le_refl _) (hxw.ext _).size)
        refine bodyPost_ret (results_arr Try.results112 (RC6) _ _ (w.heap.size) (0) ([.bool true, .slice a n c, .slice a1 32 c1, .slice a2 32 c2, .int .i64 0, .int .i64 0]) rfl (hB9.rd) (rfl)) rfl ?_
        have m1 := Sl.mut (hsl.ext (Ext.of_ext _ _)) (hB.ext _) (by simp) hM9
        have m2 := Sl.mut (hA1.ext (Ext.of_ext _ _)) (hB.ext _) (by simp) hM9
        have m3 := Sl.mut (hD1.ext (Ext.of_ext _ _)) (hB.ext _) (by simp) hM9
        exact ⟨_, rfl, ChR.mk (c := keyed true s 0 0) m1 hnc m2 hA2 m3 hD2, hE9⟩

set_option maxRecDepth 100000 in
set_option maxHeartbeats 4000000 in
theorem begin_any (cl : Bool) (a b : Option Addr) (n c m d : Nat) (secret hello : List UInt8) (w : World) (h : Sl w a n secret) (hnc : n ≤ c) (hl : Sl w b m hello) (hmd : m ≤ d) (hm : m ≤ 1000000) :
    Calls Try.prog 61 #[.bool cl, .slice a n c, .slice b m d] w fun e w' => ∃ v, e = .returned (.tuple #[v, .int .i64 (beginE cl secret hello).2]) ∧ ChR w' v (beginE cl secret hello).1 ∧ Ext w w' := by
  have hll := h.len
  by_cases h1 : secret.length < 16
  · have e : beginE cl secret hello = (zeroCh, 5) := by unfold beginE; rw [if_pos (.inl h1)]
    rw [e]
    have hI1 : (n : Int) < 16 := by omega
    clear hll e
    go_enter Try.func61, Try.ntmps61
    go_wp2_with fail
    refine bodyPost_ret (v := .tuple #[.agg #[.bool false, .slice none 0 0, .slice none 0 0, .slice none 0 0, .int .i64 0, .int .i64 0], .int .i64 5]) (by simp [results, Try.results61, go_sem]) rfl ?_
    exact ⟨_, rfl, ChR.zero _, (by repeat (first | (with_reducible first | exact Ext.refl _ | assumption | apply Ext.alloc | apply Ext.ext | apply Ext.drew | refine Ext.setCell ?_ ?_ _) | (focus (simp [go_sem]; done))))⟩
  · by_cases h2 : 65535 < secret.length
    · have e : beginE cl secret hello = (zeroCh, 5) := by unfold beginE; rw [if_pos (.inr h2)]
      rw [e]
      have hI1 : ¬ (n : Int) < 16 := by omega
      have hI2 : (65535 : Int) < (n : Int) := by omega
      clear hll e
      go_enter Try.func61, Try.ntmps61
      go_wp2_with fail
      refine bodyPost_ret (v := .tuple #[.agg #[.bool false, .slice none 0 0, .slice none 0 0, .slice none 0 0, .int .i64 0, .int .i64 0], .int .i64 5]) (by simp [results, Try.results61, go_sem]) rfl ?_
      exact ⟨_, rfl, ChR.zero _, (by repeat (first | (with_reducible first | exact Ext.refl _ | assumption | apply Ext.alloc | apply Ext.ext | apply Ext.drew | refine Ext.setCell ?_ ?_ _) | (focus (simp [go_sem]; done))))⟩
    · have e := Lib.hid (show beginE cl secret hello = (keyed cl (hmac (sha hello) secret) 0 0, 0) by unfold beginE; rw [if_neg (by omega)])
      have hI1 : ¬ (n : Int) < 16 := by omega
      have hI2 : ¬ (65535 : Int) < (n : Int) := by omega
      have hn : n ≤ 65535 := by omega
      clear hll
      rw [e.out]
      generalize hky : hmac (sha hello) secret = ky at e ⊢
      go_enter Try.func61, Try.ntmps61
      go_wp2_with fail; (with_reducible refine (hsum_any _ _ _ hello _ (hl.ext (Ext.of_alloc _ _)) hmd hm).mono ?_); rintro e w1 ⟨a1, c1, rfl, hO1, hx1⟩
      have hle1 := hO1.le
      have hE1 : Ext w w1 := (Ext.of_alloc _ _).trans hx1
      go_wp2_with fail; (with_reducible refine (extract_any _ _ _ _ _ _ _ _ _ hO1.sl hle1.1 (by omega) (h.ext hE1) (by omega)).mono ?_); rintro e w2 ⟨a2, c2, rfl, hO2, hx2⟩
      have hle2 := hO2.le
      have hE2 := hE1.trans hx2
      rw [hky] at hO2
      clear hky e
      go_wp2_with fail
      (with_reducible refine (keyed_any cl _ _ _ ky _ hO2.sl hle2.1 (by omega)).mono ?_)
      rintro e w3 ⟨v, rfl, hv, hx3⟩
      obtain ⟨b1, d1, b2, d2, b3, d3, rfl, h1, k1, h2, k2, h3, k3⟩ := hv
      have hR := ((Blk.new w #[.bool false, .slice none 0 0, .slice none 0 0, .slice none 0 0, .int .i64 0, .int .i64 0] 24).extB hx1).extB (hx2.trans hx3)
      haveI := hR.blt
      go_wp2_with (first
        | (refine wpList_store_arr (RC6) rfl _ _ rfl (w.heap.size) (0) rfl ([.bool (keyed cl ky 0 0).cl, .slice b1 (keyed cl ky 0 0).sec.length d1, .slice b2 (keyed cl ky 0 0).snd.length d2, .slice b3 (keyed cl ky 0 0).rcv.length d3, .int .i64 (keyed cl ky 0 0).st, .int .i64 (keyed cl ky 0 0).rc]) rfl (24) _ (hR) (rfl) (by simp) (by first | exact one_u8 _ | (simp; done) | (simp; (repeat' (first | rfl | constructor)))) ?_; intro w9 hB9 hM9)
        | fail)
      refine bodyPost_ret (results_arr_tmp Try.results61 (RC6) _ _ (w.heap.size) (0) ([.bool (keyed cl ky 0 0).cl, .slice b1 (keyed cl ky 0 0).sec.length d1, .slice b2 (keyed cl ky 0 0).snd.length d2, .slice b3 (keyed cl ky 0 0).rcv.length d3, .int .i64 (keyed cl ky 0 0).st, .int .i64 (keyed cl ky 0 0).rc]) rfl (hB9.rd) (rfl) (.int .i64 0) rfl) rfl ?_
      have hE3 := hE2.trans hx3
      exact ⟨_, rfl, ChR.mk (c := keyed cl ky 0 0) (Sl.mut h1 hR (by simp) hM9) k1 (Sl.mut h2 hR (by simp) hM9) k2 (Sl.mut h3 hR (by simp) hM9) k3, Below.trans hE3 (hM9.below (Nat.le_refl _) hE3.size)⟩

theorem validC_no {c : Ch} (h : ¬ fitC c) : validC c = false := by unfold validC; simp [h]
theorem validC_eq {c : Ch} (h : fitC c) : validC c = ((keyed c.cl c.sec c.st c.rc).snd == c.snd && (keyed c.cl c.sec c.st c.rc).rcv == c.rcv) := by unfold validC; simp [h]

set_option maxRecDepth 100000 in
set_option maxHeartbeats 4000000 in
theorem valid_any (v : Value) (ch : Ch) (w : World) (hv : ChR w v ch) (hs : ch.sec.length ≤ 1000000) :
    Calls Try.prog 51 #[v] w fun e w' => e = .returned (.bool (validC ch)) ∧ Ext w w' := by
  obtain ⟨a1, c1, a2, c2, a3, c3, rfl, h1, k1, h2, k2, h3, k3⟩ := hv
  by_cases n32 : ch.sec.length = 32
  · by_cases hlo : min ch.st ch.rc < 0
    · rw [validC_no (fun h => by unfold fitC at h; omega)]
      have hI : (((ch.sec.length : Nat) : Int) != 32) = false := by rw [bne_eq_false_iff_eq]; omega
      clear n32
      go_enter Try.func51, Try.ntmps51
      go_wp2_with fail
      go_ret
      exact ⟨rfl, (by repeat (first | (with_reducible first | exact Ext.refl _ | assumption | apply Ext.alloc | apply Ext.ext | apply Ext.drew | refine Ext.setCell ?_ ?_ _) | (focus (simp [go_sem]; done))))⟩
    · by_cases hhi : 1099511627776 < max ch.st ch.rc
      · rw [validC_no (fun h => by unfold fitC at h; omega)]
        have hI : (((ch.sec.length : Nat) : Int) != 32) = false := by rw [bne_eq_false_iff_eq]; omega
        clear n32
        go_enter Try.func51, Try.ntmps51
        go_wp2_with fail
        go_ret
        exact ⟨rfl, (by repeat (first | (with_reducible first | exact Ext.refl _ | assumption | apply Ext.alloc | apply Ext.ext | apply Ext.drew | refine Ext.setCell ?_ ?_ _) | (focus (simp [go_sem]; done))))⟩
      · have e := Lib.hid (validC_eq (c := ch) (by unfold fitC; omega))
        have hI : (((ch.sec.length : Nat) : Int) != 32) = false := by rw [bne_eq_false_iff_eq]; omega
        clear n32
        go_enter Try.func51, Try.ntmps51
        go_wp2_with fail
        (with_reducible refine (keyed_any ch.cl _ _ _ ch.sec _ (h1.ext (Ext.of_alloc _ _)) k1 hs).mono ?_)
        rintro e w3 ⟨v, rfl, hv, hx3⟩
        obtain ⟨b1, d1, b2, d2, b3, d3, rfl, g1, q1, g2, q2, g3, q3⟩ := hv
        have H2 := (h2.ext (Ext.of_alloc w (.cells #[.bool ch.cl, .slice a1 ch.sec.length c1, .slice a2 ch.snd.length c2, .slice a3 ch.rcv.length c3, .int .i64 ch.st, .int .i64 ch.rc] 24))).ext hx3
        have H3 := (h3.ext (Ext.of_alloc w (.cells #[.bool ch.cl, .slice a1 ch.sec.length c1, .slice a2 ch.snd.length c2, .slice a3 ch.rcv.length c3, .int .i64 ch.st, .int .i64 ch.rc] 24))).ext hx3
        have hR : Blk w3 w.heap.size 24 [.bool ch.cl, .slice a1 ch.sec.length c1, .slice a2 ch.snd.length c2, .slice a3 ch.rcv.length c3, .int .i64 ch.st, .int .i64 ch.rc] := (Blk.new w #[.bool ch.cl, .slice a1 ch.sec.length c1, .slice a2 ch.snd.length c2, .slice a3 ch.rcv.length c3, .int .i64 ch.st, .int .i64 ch.rc] 24).extB hx3
        haveI := hR.blt
        have c0 := hR.cell? 2 rfl
        have c00 := hR.cell? 3 rfl
        have hE3 : Ext w w3 := (Ext.of_alloc _ _).trans hx3
        have hs1 := osame_any b2 a2 (keyed ch.cl ch.sec 0 0).snd.length d2 ch.snd.length c2 (keyed ch.cl ch.sec 0 0).snd ch.snd
        have hs2 := osame_any b3 a3 (keyed ch.cl ch.sec 0 0).rcv.length d3 ch.rcv.length c3 (keyed ch.cl ch.sec 0 0).rcv ch.rcv
        clear h1 h2 h3
        cases hb1 : ((keyed ch.cl ch.sec 0 0).snd == ch.snd)
        · rw [hb1] at hs1
          have e2 := Lib.hid (show validC ch = false by rw [e.out, show (keyed ch.cl ch.sec ch.st ch.rc).snd = (keyed ch.cl ch.sec 0 0).snd from rfl, hb1]; rfl)
          clear e hb1
          go_wp2_with (first
            | (refine wpList_alloc_store (RC6) rfl rfl _ _ rfl rfl rfl rfl (by simp [Act.put]) ([.bool (keyed ch.cl ch.sec 0 0).cl, .slice b1 (keyed ch.cl ch.sec 0 0).sec.length d1, .slice b2 (keyed ch.cl ch.sec 0 0).snd.length d2, .slice b3 (keyed ch.cl ch.sec 0 0).rcv.length d3, .int .i64 (keyed ch.cl ch.sec 0 0).st, .int .i64 (keyed ch.cl ch.sec 0 0).rc]) rfl (by simp) (rfl) ((by simp; repeat' (first | rfl | constructor))) ?_; intro x hBx _); (have f1 := hBx.cell? 2 rfl); (have f2 := hBx.cell? 3 rfl)
            | (go_at_call 114; (with_reducible refine (hs1 ?_ ?hq133 ?hq134).mono ?_); (case hq133 => (repeat' (first | with_reducible assumption | (with_reducible exact zeros16 _) | (with_reducible exact sl_new1 _ _ _) | (with_reducible first | apply Sl.upE | apply Sl.upA | apply Sl.upD)))); (case hq134 => (repeat' (first | with_reducible assumption | (with_reducible exact zeros16 _) | (with_reducible exact sl_new1 _ _ _) | (with_reducible first | apply Sl.upE | apply Sl.upA | apply Sl.upD)))); rintro e w1 ⟨rfl, hxq⟩; obtain ⟨xq, rfl⟩ := hxq.out; clear hxq)
            | fail)
          go_ret
          exact ⟨by rw [e2.out]; rfl, (by repeat (first | (with_reducible first | exact Ext.refl _ | assumption | apply Ext.alloc | apply Ext.ext | apply Ext.drew | refine Ext.setCell ?_ ?_ _) | (focus (simp [go_sem]; done))))⟩
        · rw [hb1] at hs1
          cases hb2 : ((keyed ch.cl ch.sec 0 0).rcv == ch.rcv)
          all_goals
            rw [hb2] at hs2
            have e2 := Lib.hid (show validC ch = _ by rw [e.out, show (keyed ch.cl ch.sec ch.st ch.rc).snd = (keyed ch.cl ch.sec 0 0).snd from rfl, show (keyed ch.cl ch.sec ch.st ch.rc).rcv = (keyed ch.cl ch.sec 0 0).rcv from rfl, hb1, hb2])
            clear e hb1 hb2
            go_wp2_with (first
              | (refine wpList_alloc_store (RC6) rfl rfl _ _ rfl rfl rfl rfl (by simp [Act.put]) ([.bool (keyed ch.cl ch.sec 0 0).cl, .slice b1 (keyed ch.cl ch.sec 0 0).sec.length d1, .slice b2 (keyed ch.cl ch.sec 0 0).snd.length d2, .slice b3 (keyed ch.cl ch.sec 0 0).rcv.length d3, .int .i64 (keyed ch.cl ch.sec 0 0).st, .int .i64 (keyed ch.cl ch.sec 0 0).rc]) rfl (by simp) (rfl) ((by simp; repeat' (first | rfl | constructor))) ?_; intro x hBx _); (have f1 := hBx.cell? 2 rfl); (have f2 := hBx.cell? 3 rfl)
              | (go_at_call 114; (with_reducible refine (hs1 ?_ ?hq135 ?hq136).mono ?_); (case hq135 => (repeat' (first | with_reducible assumption | (with_reducible exact zeros16 _) | (with_reducible exact sl_new1 _ _ _) | (with_reducible first | apply Sl.upE | apply Sl.upA | apply Sl.upD)))); (case hq136 => (repeat' (first | with_reducible assumption | (with_reducible exact zeros16 _) | (with_reducible exact sl_new1 _ _ _) | (with_reducible first | apply Sl.upE | apply Sl.upA | apply Sl.upD)))); rintro e w1 ⟨rfl, hxq⟩; obtain ⟨xq, rfl⟩ := hxq.out; clear hxq)
              | (go_at_call 114; (with_reducible refine (hs2 ?_ ?hq137 ?hq138).mono ?_); (case hq137 => (repeat' (first | with_reducible assumption | (with_reducible exact zeros16 _) | (with_reducible exact sl_new1 _ _ _) | (with_reducible first | apply Sl.upE | apply Sl.upA | apply Sl.upD)))); (case hq138 => (repeat' (first | with_reducible assumption | (with_reducible exact zeros16 _) | (with_reducible exact sl_new1 _ _ _) | (with_reducible first | apply Sl.upE | apply Sl.upA | apply Sl.upD)))); rintro e w1 ⟨rfl, hxq⟩; obtain ⟨xq, rfl⟩ := hxq.out; clear hxq)
              | fail)
            go_ret
            exact ⟨by rw [e2.out]; rfl, (by repeat (first | (with_reducible first | exact Ext.refl _ | assumption | apply Ext.alloc | apply Ext.ext | apply Ext.drew | refine Ext.setCell ?_ ?_ _) | (focus (simp [go_sem]; done))))⟩
  · rw [validC_no (fun h => n32 h.1)]
    have hI : (((ch.sec.length : Nat) : Int) != 32) = true := by rw [bne_iff_ne]; omega
    clear n32
    go_enter Try.func51, Try.ntmps51
    go_wp2_with fail
    go_ret
    exact ⟨rfl, (by repeat (first | (with_reducible first | exact Ext.refl _ | assumption | apply Ext.alloc | apply Ext.ext | apply Ext.drew | refine Ext.setCell ?_ ?_ _) | (focus (simp [go_sem]; done))))⟩
end Go.Proofs.Ytkjdlbjbppbmdaa
