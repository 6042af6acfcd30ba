/- Lemmas of this claim, several texts joined. -/
import Derived.Test.YthooaeeajeajnaaZ16
import Derived.Test.YthooaeeajeajnaaZ25
import Derived.Test.YthooaeeajeajnaaZ26
set_option linter.unusedVariables false
set_option linter.unusedSimpArgs false
/- Layer 5 at all lengths of keys and lists. -/
namespace Go.Aes
def doubleE (l : List UInt8) : List UInt8 := if l.length = 16 then tw l else []
def subkeysE (ky : List UInt8) : List UInt8 × List UInt8 × Int := if ky.length = 16 then (sub1 (expand ky), sub2 (expand ky), 0) else ([], [], 5)
def cmacE (ky l : List UInt8) : List UInt8 × Int := if ky.length = 16 then (cmac ky l, 0) else ([], 5)
def vectorE (ky : List UInt8) (L : List (List UInt8)) : List UInt8 × Int := if ky.length = 16 then if 17 < L.length then ([], 8) else (s2v ky L, 0) else ([], 5)
end Go.Aes
namespace Go.Proofs.Ythooaeeajeajnaa
open Go.RowKit Go.Sec Go.Oct Go.Aes BigFrame
/-- Readable bytes. -/
def ReadS (n : Nat) (l : List UInt8) (w : World) (e : Ending) (w' : World) : Prop := ∃ a c, e = .returned (.slice a n c) ∧ Sl w' a n l ∧ n ≤ c ∧ Ext w w'
/-- Two lists of bytes, and a code. -/
def Read3 (n : Nat) (l : List UInt8) (m : Nat) (k : List UInt8) (v : Value) (w : World) (e : Ending) (w' : World) : Prop :=
  ∃ a c b d, e = .returned (.tuple #[.slice a n c, .slice b m d, v]) ∧ Sl w' a n l ∧ n ≤ c ∧ Sl w' b m k ∧ m ≤ d ∧ Ext w w'
theorem fresh_readS {n : Nat} {l : List UInt8} {w w' : World} {e : Ending} (h : Fresh n l w e w') : ReadS n l w e w' := by
  obtain ⟨a, c, h1, h2, h3⟩ := h
  exact ⟨a, c, h1, h2.sl, h2.le.1, h3⟩

theorem double_full (a : Option Addr) (n c : Nat) (l : List UInt8) (w : World) (h : Sl w a n l) :
    Calls Try.prog 36 #[.slice a n c] w (ReadS (doubleE l).length (doubleE l) w) := by
  by_cases h16 : n = 16
  · subst h16
    have e : doubleE l = tw l := if_pos h.len
    rw [e, tw_length]
    exact (double_any a c l w h).mono fun _ _ ⟨a', c', h1, h2, h3, h4⟩ => ⟨a', c', h1, h3, h2, h4⟩
  · have e : doubleE l = [] := if_neg (by rw [h.len]; exact h16)
    rw [e]
    have hI := ne16 h16
    clear h16 e
    go_enter Try.func36, Try.ntmps36
    go_wp2
    go_ret
    exact ⟨_, _, rfl, Sl.nil _ _, Nat.le_refl _, Ext.refl _⟩
theorem rdouble_full (a : Option Addr) (n c : Nat) (l : List UInt8) (w : World) (h : Sl w a n l) :
    Calls Try.prog 43 #[.slice a n c] w (ReadS (doubleE l).length (doubleE l) w) := by
  by_cases h16 : n = 16
  · subst h16
    have e : doubleE l = tw l := if_pos h.len
    rw [e, tw_length]
    exact (rdouble_any a c l w h).mono fun _ _ h => fresh_readS h
  · have e : doubleE l = [] := if_neg (by rw [h.len]; exact h16)
    rw [e]
    have hI := ne16 h16
    clear h16 e
    go_enter Try.func43, Try.ntmps43
    go_wp2
    go_ret
    exact ⟨_, _, rfl, Sl.nil _ _, Nat.le_refl _, Ext.refl _⟩

def kz0 : List Value := .pointer none :: List.replicate 32 (u8v 0)
theorem kz0_one : ∀ v ∈ kz0, v.oneCell' = true := by
  intro v hv
  simp [kz0] at hv
  rcases hv with rfl | rfl <;> rfl
def ReadyNo (w : World) (e : Ending) (w' : World) : Prop := ∃ ks : List Value, e = .returned (.tuple #[.agg ks.toArray, .int .i64 5]) ∧ ks.length = 33 ∧ (∀ v ∈ ks, v.oneCell' = true) ∧ Ext w w'

set_option maxRecDepth 100000 in
set_option maxHeartbeats 4000000 in
theorem ready_no (a : Option Addr) (n c : Nat) (w : World) (h16 : n ≠ 16) :
    Calls Try.prog 63 #[.slice a n c] w (ReadyNo w) := by
  have hI := ne16 h16
  clear h16
  have hZ : Blk (w.alloc (.cells kz0.toArray 71)) w.heap.size 71 kz0 := Blk.new w kz0.toArray _
  have hx0 : Ext w (w.alloc (.cells kz0.toArray 71)) := (by repeat (first | (with_reducible first | exact Ext.refl _ | assumption | apply Ext.alloc | apply Ext.ext | apply Ext.drew | refine Ext.setCell ?_ ?_ _) | (focus (simp [go_sem]; done))))
  go_enter Try.func63, Try.ntmps63
  go_wp2_with (first
    | (refine wpList_store_arr R71 rfl (.tmp 2) (.tmp 9) rfl w.heap.size 0 rfl kz0 rfl 71 kz0 hZ rfl (Nat.le_refl _) kz0_one ?_; intro w1 hB1 hM1)
    | fail)
  have hB2 : Blk w1 w.heap.size 71 kz0 := hB1
  have hx1 : Ext w w1 := Below.trans hx0 (hM1.below (Nat.le_refl _) hx0.size)
  refine bodyPost_ret (results_arr_tmp Try.results63 (R71) _ _ (w.heap.size) (0) (kz0) rfl (hB2.rd) (rfl) (.int .i64 5) rfl) rfl ?_
  exact ⟨kz0, rfl, rfl, kz0_one, hx1⟩

set_option maxRecDepth 100000 in
set_option maxHeartbeats 4000000 in
theorem subkeys_full (a : Option Addr) (n ca : Nat) (ky : List UInt8) (w : World) (hk : Sl w a n ky) (hca : n ≤ ca) :
    Calls Try.prog 37 #[.slice a n ca] w (Read3 (subkeysE ky).1.length (subkeysE ky).1 (subkeysE ky).2.1.length (subkeysE ky).2.1 (.int .i64 (subkeysE ky).2.2) w) := by
  by_cases h16 : n = 16
  · subst h16
    have e : subkeysE ky = (sub1 (expand ky), sub2 (expand ky), 0) := if_pos hk.len
    rw [e]
    show Calls _ _ _ _ (Read3 (tw _).length _ (tw _).length _ _ _)
    rw [tw_length, tw_length]
    exact (subkeys_any a ca ky w hk hca).mono fun _ _ ⟨a1, c1, a2, c2, h1, h2, h3, h4, h5, h6⟩ => ⟨a1, c1, a2, c2, h1, h2, h3, h4, h5, h6⟩
  · have e : subkeysE ky = ([], [], 5) := if_neg (by rw [hk.len]; exact h16)
    rw [e]
    clear e
    go_enter Try.func37, Try.ntmps37
    go_wp2_with fail
    (refine (ready_no _ _ _ _ h16).mono ?_; rintro e w1 ⟨kz, rfl, hkl, hk1, hx1⟩)
    go_wp2_with (first
      | (refine wpList_alloc_store (R71) rfl rfl _ _ rfl rfl rfl rfl (by simp [Act.put]) (kz) rfl (by simp) (hkl) (hk1) ?_; intro x hBk _)
      | fail)
    go_ret3
    exact ⟨_, _, _, _, rfl, Sl.nil _ _, Nat.le_refl _, Sl.nil _ _, Nat.le_refl _, (by repeat (first | (with_reducible first | exact Ext.refl _ | assumption | apply Ext.alloc | apply Ext.ext | apply Ext.drew | refine Ext.setCell ?_ ?_ _) | (focus (simp [go_sem]; done))))⟩
set_option maxRecDepth 100000 in
set_option maxHeartbeats 4000000 in
theorem rsubkeys_full (a : Option Addr) (n ca : Nat) (ky : List UInt8) (w : World) (hk : Sl w a n ky) :
    Calls Try.prog 42 #[.slice a n ca] w (Read3 (subkeysE ky).1.length (subkeysE ky).1 (subkeysE ky).2.1.length (subkeysE ky).2.1 (.int .i64 (subkeysE ky).2.2) w) := by
  by_cases h16 : n = 16
  · subst h16
    have e : subkeysE ky = (sub1 (expand ky), sub2 (expand ky), 0) := if_pos hk.len
    rw [e]
    show Calls _ _ _ _ (Read3 (tw _).length _ (tw _).length _ _ _)
    rw [tw_length, tw_length]
    have hks : (expand ky).length = 176 := words_length ky 40 hk.len
    have H1 := Lib.hid (show tw (enc (expand ky) zero16) = sub1 (expand ky) from rfl)
    have H2 := Lib.hid (show tw (sub1 (expand ky)) = sub2 (expand ky) from rfl)
    have hp := fun w h => prepare_any a ca ky w h
    have hen := fun a c l w h hc => renc_any a c (expand ky) l hks w h hc
    have hen2 := fun a w (h : Sl w a 16 zero16) => hen a 16 zero16 w h (by omega)
    have hmk := make16
    have hel := enc_length (expand ky) zero16
    generalize pre (expand ky) = pk at *
    generalize sub1 (expand ky) = k1 at *
    generalize sub2 (expand ky) = k2 at *
    generalize expand ky = ks at *
    generalize enc ks zero16 = ek at *
    clear e
    go_enter Try.func42, Try.ntmps42
    go_wp2_with fail
    refine wp_region_vague 6 [[], [0], [], [0, 1, 2], [0, 1, 2, 3], [0, 1, 2, 3, 4]] (by kernel_rfl) (by kernel_rfl) (by kernel_rfl) (by kernel_rfl) ?_; simp only [List.take_succ_cons, List.take_zero, List.drop_succ_cons, List.drop_zero, List.take_nil, List.drop_nil]
    (repeat (apply VD_der; (case h => (intro us w' hx hf; obtain ⟨x, rfl⟩ := hx.out; refine ⟨rfl, ?_⟩; simp [go_sem, execOp, *]; (try simp (disch := omega) only [Go.IntWalk.i64_in, Go.IntWalk.rem_in, Go.IntWalk.wrap64_in]); rfl)); (try simp only [Act.put, List.setIfInBounds_toArray, List.set_cons_succ, List.set_cons_zero])))
    (refine VD_vag (fun _ => .agg (pk.map u8v).toArray) (fun _ _ => True) (fun _ _ _ _ _ => trivial) (fun us w' hx hf => ⟨rfl, ?_⟩) ?_; (unfold gives; simp [go_sem, execOp]; refine (hp _ (hk.ext hx)).mono ?_; rintro e w1 ⟨rfl, hx1⟩; first | exact ⟨rfl, hx1⟩ | simpa using hx1))
    (refine VD_vag (fun p => .slice (p 0).1 (16) (16)) (fun p w'' => Sl w'' (p 0).1 (16) (zero16)) (fun p w w' h hx => h.ext hx) (fun us w' hx hf => ⟨rfl, ?_⟩) ?_; (unfold gives; simp [go_sem, execOp, make16]; exact ⟨fun _ => (some ⟨w'.heap.size, 0, none⟩, 0), rfl, Ext.of_alloc _ _, (blk_zeros8 _ _).sl rfl⟩))
    (refine VD_vag (fun p => .slice (p 0).1 (16) (p 0).2) (fun p w'' => Own w'' 0 (p 0).1 (16) (p 0).2 (ek)) (fun p w w' h hx => h.ext hx) (fun us w' hx hf => ⟨rfl, ?_⟩) ?_; (unfold gives; simp [go_sem, execOp]; exact vag_fresh (Nat.zero_le _) (hen2 _ _ (hf _ (List.mem_append_right _ (List.mem_singleton_self _)) rfl))))
    (refine VD_vag (fun p => .slice (p 0).1 (16) (p 0).2) (fun p w'' => Own w'' 0 (p 0).1 (16) (p 0).2 (tw ek)) (fun p w w' h hx => h.ext hx) (fun us w' hx hf => ⟨rfl, ?_⟩) ?_; (unfold gives; simp [go_sem, execOp]; exact vag_fresh (Nat.zero_le _) (rdouble_any _ _ ek _ (Own.sl (by exact (hf _ (List.mem_append_right _ (List.mem_singleton_self _)) rfl))))))
    (repeat (apply VD_der; (case h => (intro us w' hx hf; obtain ⟨x, rfl⟩ := hx.out; refine ⟨rfl, ?_⟩; simp [go_sem, execOp, *]; (try simp (disch := omega) only [Go.IntWalk.i64_in, Go.IntWalk.rem_in, Go.IntWalk.wrap64_in]); rfl)); (try simp only [Act.put, List.setIfInBounds_toArray, List.set_cons_succ, List.set_cons_zero])))
    (refine VD_nil ?_; intro us w' hx hf; obtain ⟨x, rfl⟩ := hx.out; (try simp only [Act.put, List.setIfInBounds_toArray, List.set_cons_succ, List.set_cons_zero, wpList_none]); (try simp only [List.mem_cons, List.not_mem_nil, or_false, forall_eq_or_imp, forall_eq, List.nil_append, List.cons_append, List.mem_append, false_or, true_and, and_true] at hf); (try simp only [Nat.reduceAdd, Nat.zero_add] at hf); (try simp only [Nat.reduceAdd, Nat.zero_add]))
    obtain ⟨-, -, hO2⟩ := hf
    rw [H1.out] at hO2
    have hS2 := hO2.sl
    have hle2 := hO2.le
    clear hO2 hen2
    clear H1
    go_wp2_with (first | (go_at_call 43; (with_reducible refine (rdouble_any ?_ ?_ k1 ?_ ?hq78).mono ?_); (case hq78 => (repeat' (first | with_reducible assumption | (with_reducible exact zeros16 _) | (with_reducible exact sl_new1 _ _ _) | (with_reducible first | apply Sl.upE | apply Sl.upA | apply Sl.upD)))); rintro e _ ⟨_, _, rfl, hO, hx⟩; obtain ⟨_, rfl⟩ := hx.out; clear hx; have := Own.le hO; have := Own.sl hO) | fail)
    go_ret3
    exact ⟨_, _, _, _, rfl, (by (repeat' (first | with_reducible assumption | (with_reducible exact zeros16 _) | (with_reducible exact sl_new1 _ _ _) | (with_reducible first | apply Sl.upE | apply Sl.upA | apply Sl.upD)))), by omega, by rw [← H2.out]; assumption, by omega, (by repeat (first | (with_reducible first | exact Ext.refl _ | assumption | apply Ext.alloc | apply Ext.ext | apply Ext.drew | refine Ext.setCell ?_ ?_ _) | (focus (simp [go_sem]; done))))⟩
  · have e : subkeysE ky = ([], [], 5) := if_neg (by rw [hk.len]; exact h16)
    rw [e]
    have hI := ne16 h16
    clear e
    go_enter Try.func42, Try.ntmps42
    go_wp2
    go_ret3
    exact ⟨_, _, _, _, rfl, Sl.nil _ _, Nat.le_refl _, Sl.nil _ _, Nat.le_refl _, Ext.refl _⟩

set_option maxRecDepth 100000 in
set_option maxHeartbeats 4000000 in
theorem cmac_full (a b : Option Addr) (n ca m cb : Nat) (ky l : List UInt8) (w : World) (hk : Sl w a n ky) (hca : n ≤ ca) (hl : Sl w b m l) (hmc : m ≤ cb) (hm : m ≤ 65535) :
    Calls Try.prog 26 #[.slice a n ca, .slice b m cb] w (Read2 (cmacE ky l).1.length (cmacE ky l).1 (.int .i64 (cmacE ky l).2) w) := by
  by_cases h16 : n = 16
  · subst h16
    have e : cmacE ky l = (cmac ky l, 0) := if_pos hk.len
    rw [e]
    show Calls _ _ _ _ (Read2 (mac _ _).length _ _ _)
    rw [mac_length]
    exact cmac_any a b ca m cb ky l w hk hca hl hmc hm
  · have e : cmacE ky l = ([], 5) := if_neg (by rw [hk.len]; exact h16)
    rw [e]
    clear e
    go_enter Try.func26, Try.ntmps26
    go_wp2_with fail
    (refine (ready_no _ _ _ _ h16).mono ?_; rintro e w1 ⟨kz, rfl, hkl, hk1, hx1⟩)
    go_wp2_with (first
      | (refine wpList_alloc_store (R71) rfl rfl _ _ rfl rfl rfl rfl (by simp [Act.put]) (kz) rfl (by simp) (hkl) (hk1) ?_; intro x hBk _)
      | fail)
    go_ret2
    exact read2_err _ _ _ (by repeat (first | (with_reducible first | exact Ext.refl _ | assumption | apply Ext.alloc | apply Ext.ext | apply Ext.drew | refine Ext.setCell ?_ ?_ _) | (focus (simp [go_sem]; done))))
set_option maxRecDepth 100000 in
set_option maxHeartbeats 4000000 in
theorem rcmac_full (a b : Option Addr) (n ca m cb : Nat) (ky l : List UInt8) (w : World) (hk : Sl w a n ky) (hl : Sl w b m l) (hmc : m ≤ cb) (hm : m ≤ 65535) :
    Calls Try.prog 39 #[.slice a n ca, .slice b m cb] w (Read2 (cmacE ky l).1.length (cmacE ky l).1 (.int .i64 (cmacE ky l).2) w) := by
  by_cases h16 : n = 16
  · subst h16
    have e : cmacE ky l = (cmac ky l, 0) := if_pos hk.len
    rw [e]
    show Calls _ _ _ _ (Read2 (mac _ _).length _ _ _)
    rw [mac_length]
    exact rcmac_any a b ca m cb ky l w hk hl hmc hm
  · have e : cmacE ky l = ([], 5) := if_neg (by rw [hk.len]; exact h16)
    rw [e]
    have hI := ne16 h16
    clear e
    go_enter Try.func39, Try.ntmps39
    go_wp2_with fail
    go_ret2
    exact read2_err _ _ _ (by repeat (first | (with_reducible first | exact Ext.refl _ | assumption | apply Ext.alloc | apply Ext.ext | apply Ext.drew | refine Ext.setCell ?_ ?_ _) | (focus (simp [go_sem]; done))))
set_option maxRecDepth 100000 in
set_option maxHeartbeats 4000000 in
theorem vector_full (a b : Option Addr) (n ca m cb : Nat) (ky : List UInt8) (L : List (List UInt8)) (w : World) (hk : Sl w a n ky) (hca : n ≤ ca) (hl : Bsc w b m L) (hmc : m ≤ cb) (hmax : ∀ x ∈ L, x.length ≤ 65535) :
    Calls Try.prog 40 #[.slice a n ca, .slice b m cb] w (Read2 (vectorE ky L).1.length (vectorE ky L).1 (.int .i64 (vectorE ky L).2) w) := by
  by_cases h16 : n = 16
  · subst h16
    by_cases h17 : 17 < m
    · have e : vectorE ky L = ([], 8) := by unfold vectorE; rw [if_pos hk.len, if_pos (by rw [hl.len]; exact h17)]
      rw [e]
      have hI : (17 : Int) < (m : Int) := by omega
      have hr := ready_any a ca ky w hk hca
      clear e
      have hs1 := tw_length (enc (expand ky) zero16)
      have hs2 := tw_length (sub1 (expand ky))
      go_enter Try.func40, Try.ntmps40
      go_wp2_with fail
      refine hr.mono ?_
      rintro e w1 ⟨g, rfl, hg, hB, hx1⟩
      clear hr
      have hkl := kc_length g (sub1 (expand ky)) (sub2 (expand ky)) hs1 hs2
      have hk1 := kc_one g (sub1 (expand ky)) (sub2 (expand ky))
      generalize kc g (sub1 (expand ky)) (sub2 (expand ky)) = kk at *
      go_wp2_with (first
        | (refine wpList_alloc_store (R71) rfl rfl _ _ rfl rfl rfl rfl (by simp [Act.put]) (kk) rfl (by simp) (hkl) (hk1) ?_; intro x hBk _)
        | fail)
      go_ret2
      exact read2_err _ _ _ (by repeat (first | (with_reducible first | exact Ext.refl _ | assumption | apply Ext.alloc | apply Ext.ext | apply Ext.drew | refine Ext.setCell ?_ ?_ _) | (focus (simp [go_sem]; done))))
    · have e : vectorE ky L = (s2v ky L, 0) := by unfold vectorE; rw [if_pos hk.len, if_neg (by rw [hl.len]; exact h17)]
      rw [e]
      show Calls _ _ _ _ (Read2 (s2v ky L).length _ _ _)
      rw [s2v_length]
      exact vector_any a b ca m cb ky L w hk hca hl hmc (by omega) hmax
  · have e : vectorE ky L = ([], 5) := if_neg (by rw [hk.len]; exact h16)
    rw [e]
    clear e
    go_enter Try.func40, Try.ntmps40
    go_wp2_with fail
    (refine (ready_no _ _ _ _ h16).mono ?_; rintro e w1 ⟨kz, rfl, hkl, hk1, hx1⟩)
    go_wp2_with (first
      | (refine wpList_alloc_store (R71) rfl rfl _ _ rfl rfl rfl rfl (by simp [Act.put]) (kz) rfl (by simp) (hkl) (hk1) ?_; intro x hBk _)
      | fail)
    go_ret2
    exact read2_err _ _ _ (by repeat (first | (with_reducible first | exact Ext.refl _ | assumption | apply Ext.alloc | apply Ext.ext | apply Ext.drew | refine Ext.setCell ?_ ?_ _) | (focus (simp [go_sem]; done))))
set_option maxRecDepth 100000 in
set_option maxHeartbeats 4000000 in
theorem rvector_full (a b : Option Addr) (n ca m cb : Nat) (ky : List UInt8) (L : List (List UInt8)) (w : World) (hk : Sl w a n ky) (hl : Bsc w b m L) (hmax : ∀ x ∈ L, x.length ≤ 65535) :
    Calls Try.prog 41 #[.slice a n ca, .slice b m cb] w (Read2 (vectorE ky L).1.length (vectorE ky L).1 (.int .i64 (vectorE ky L).2) w) := by
  by_cases h16 : n = 16
  · subst h16
    by_cases h17 : 17 < m
    · have e : vectorE ky L = ([], 8) := by unfold vectorE; rw [if_pos hk.len, if_pos (by rw [hl.len]; exact h17)]
      rw [e]
      have hI : (17 : Int) < (m : Int) := by omega
      clear e
      go_enter Try.func41, Try.ntmps41
      go_wp2_with fail
      go_ret2
      exact read2_err _ _ _ (by repeat (first | (with_reducible first | exact Ext.refl _ | assumption | apply Ext.alloc | apply Ext.ext | apply Ext.drew | refine Ext.setCell ?_ ?_ _) | (focus (simp [go_sem]; done))))
    · have e : vectorE ky L = (s2v ky L, 0) := by unfold vectorE; rw [if_pos hk.len, if_neg (by rw [hl.len]; exact h17)]
      rw [e]
      show Calls _ _ _ _ (Read2 (s2v ky L).length _ _ _)
      rw [s2v_length]
      exact rvector_any a b ca m cb ky L w hk hl (by omega) hmax
  · have e : vectorE ky L = ([], 5) := if_neg (by rw [hk.len]; exact h16)
    rw [e]
    have hI := ne16 h16
    clear e
    go_enter Try.func41, Try.ntmps41
    go_wp2_with fail
    go_ret2
    exact read2_err _ _ _ (by repeat (first | (with_reducible first | exact Ext.refl _ | assumption | apply Ext.alloc | apply Ext.ext | apply Ext.drew | refine Ext.setCell ?_ ?_ _) | (focus (simp [go_sem]; done))))
end Go.Proofs.Ythooaeeajeajnaa

/- CmacActs: the law's walk. -/
namespace Go.Proofs.Ythooaeeajeajnaa
open Go.RowKit Go.Sec Go.Oct Go.Aes BigFrame

set_option maxRecDepth 100000 in
set_option maxHeartbeats 4000000 in
theorem cmacActs_walk (a0 : Option Addr) (n0 c0 : Nat) (a1 : Option Addr) (n1 c1 : Nat) (a2 : Option Addr) (n2 c2 : Nat) (ky b : List UInt8) (L : List (List UInt8)) (w : World) (hk : Sl w a0 n0 ky) (hk' : n0 ≤ c0) (hb : Sl w a1 n1 b) (hb' : n1 ≤ c1) (hl : Bsc w a2 n2 L) (hl' : n2 ≤ c2) :
    Calls Try.prog 11 #[.slice a0 n0 c0, .slice a1 n1 c1, .slice a2 n2 c2] w fun e w' => e = .returned (.bool true) ∧ Ext w w' := by
  have hcs : (40 : Int) < (n0 : Int) ∨ (¬ (40 : Int) < (n0 : Int) ∧ (100 : Int) < (n1 : Int)) ∨ (¬ (40 : Int) < (n0 : Int) ∧ ¬ (100 : Int) < (n1 : Int) ∧ (20 : Int) < (n2 : Int)) ∨ (¬ (40 : Int) < (n0 : Int) ∧ ¬ (100 : Int) < (n1 : Int) ∧ ¬ (20 : Int) < (n2 : Int)) := by omega
  rcases hcs with h0 | ⟨h0, h1⟩ | ⟨h0, h1, h2⟩ | ⟨h0, h1, h2⟩
  · go_enter Try.func11, Try.ntmps11
    go_wp2_with (go_at_call 27; refine (known5_any _).mono ?_; rintro e w1 ⟨rfl, hxq⟩; obtain ⟨xq, rfl⟩ := hxq.out; clear hxq)
    go_returns
    exact ⟨rfl, (by repeat (first | (with_reducible first | exact Ext.refl _ | assumption | apply Ext.alloc | apply Ext.ext | apply Ext.drew | refine Ext.setCell ?_ ?_ _) | (focus (simp [go_sem]; done))))⟩
  · go_enter Try.func11, Try.ntmps11
    go_wp2_with (go_at_call 27; refine (known5_any _).mono ?_; rintro e w1 ⟨rfl, hxq⟩; obtain ⟨xq, rfl⟩ := hxq.out; clear hxq)
    go_returns
    exact ⟨rfl, (by repeat (first | (with_reducible first | exact Ext.refl _ | assumption | apply Ext.alloc | apply Ext.ext | apply Ext.drew | refine Ext.setCell ?_ ?_ _) | (focus (simp [go_sem]; done))))⟩
  · go_enter Try.func11, Try.ntmps11
    go_wp2_with (go_at_call 27; refine (known5_any _).mono ?_; rintro e w1 ⟨rfl, hxq⟩; obtain ⟨xq, rfl⟩ := hxq.out; clear hxq)
    go_returns
    exact ⟨rfl, (by repeat (first | (with_reducible first | exact Ext.refl _ | assumption | apply Ext.alloc | apply Ext.ext | apply Ext.drew | refine Ext.setCell ?_ ?_ _) | (focus (simp [go_sem]; done))))⟩
  · have hLl := hl.len
    go_enter Try.func11, Try.ntmps11
    go_wp2_with fail
    go_loopw [7] (fun v7 wr => ∃ i : Nat, i ≤ n2 ∧ v7 = .int .i64 i ∧ Hid (∀ x ∈ L.take i, x.length ≤ 60) ∧ Ext w wr) (fun v7 _ => n2 - (intOf v7).toNat)
    case atStart => exact ⟨0, by omega, rfl, Lib.hid (by simp), Ext.refl _⟩
    case round =>
      obtain ⟨i, hi, rfl, hm, hx⟩ := hrel
      obtain ⟨x, rfl⟩ := hx.out
      by_cases hlt : i < n2
      · obtain ⟨b0, o0, a', n', c', rfl, hb0, hcell, hc', hS⟩ := (hl.ext hx).at i hlt
        have i0 : (0 : Int) ≤ (i : Int) := by omega
        have i1 : (i : Int) < (n2 : Int) := by omega
        by_cases h60 : 60 < n'
        · have hI : (60 : Int) < (n' : Int) := by omega
          go_wp2_with (go_at_call 27; refine (known5_any _).mono ?_; rintro e w1 ⟨rfl, hxq⟩; obtain ⟨xq, rfl⟩ := hxq.out; clear hxq)
          go_returns
          exact ⟨rfl, (by repeat (first | (with_reducible first | exact Ext.refl _ | assumption | apply Ext.alloc | apply Ext.ext | apply Ext.drew | refine Ext.setCell ?_ ?_ _) | (focus (simp [go_sem]; done))))⟩
        · have hI : ¬ (60 : Int) < (n' : Int) := by omega
          have hm2 := Lib.hid (show ∀ x ∈ L.take (i + 1), x.length ≤ 60 by
            rw [List.take_succ_eq_append_getElem (by omega)]
            intro x hx
            rcases List.mem_append.1 hx with h | h
            · exact hm.out x h
            · simp only [List.mem_singleton] at h; subst h; have := hS.len; omega)
          go_wp2_with fail
          go_roundw
          case rel => exact ⟨i + 1, by omega, by go_num, hm2, (by repeat (first | (with_reducible first | exact Ext.refl _ | assumption | apply Ext.alloc | apply Ext.ext | apply Ext.drew | refine Ext.setCell ?_ ?_ _) | (focus (simp [go_sem]; done))))⟩
          case measure => simp [intOf]; omega
      · have hi2 : ¬ (i : Int) < (n2 : Int) := by omega
        have hmax : ∀ x ∈ L, x.length ≤ 65535 := by
          have := hm.out
          rw [List.take_of_length_le (by omega)] at this
          intro x hx
          have := this x hx
          omega
        have f1 := fun a n ca w h h' => subkeys_full a n ca ky w h h'
        have f2 := fun a n ca w h => rsubkeys_full a n ca ky w h
        have f3 := fun a b' n ca m cb w h1 h2 h3 h4 h5 => cmac_full a b' n ca m cb ky b w h1 h2 h3 h4 h5
        have f4 := fun a b' n ca m cb w h1 h3 h4 h5 => rcmac_full a b' n ca m cb ky b w h1 h3 h4 h5
        have f5 := fun a b' n ca m cb w h1 h2 h3 h4 => vector_full a b' n ca m cb ky L w h1 h2 h3 h4 hmax
        have f6 := fun a b' n ca m cb w h1 h3 => rvector_full a b' n ca m cb ky L w h1 h3 hmax
        clear hm hmax
        generalize (subkeysE ky).2.2 = e1 at *
        generalize (subkeysE ky).2.1 = K1 at *
        generalize (subkeysE ky).1 = K0 at *
        generalize (cmacE ky b).2 = e2 at *
        generalize (cmacE ky b).1 = K2 at *
        generalize (vectorE ky L).2 = e3 at *
        generalize (vectorE ky L).1 = K3 at *
        go_wp2_with (first
          | (go_at_call 37; (with_reducible refine (f1 ?_ ?_ ?_ ?_ ?hq96 ?hq97).mono ?_); (case hq96 => (repeat' (first | with_reducible assumption | (with_reducible exact zeros16 _) | (with_reducible exact sl_new1 _ _ _) | (with_reducible first | apply Sl.upE | apply Sl.upA | apply Sl.upD)))); (case hq97 => omega); rintro e _ ⟨_, _, _, _, rfl, hS, hc, hS2, hc2, hx⟩; obtain ⟨_, rfl⟩ := hx.out; clear hx)
          | (go_at_call 42; (with_reducible refine (f2 ?_ ?_ ?_ ?_ ?hq98).mono ?_); (case hq98 => (repeat' (first | with_reducible assumption | (with_reducible exact zeros16 _) | (with_reducible exact sl_new1 _ _ _) | (with_reducible first | apply Sl.upE | apply Sl.upA | apply Sl.upD)))); rintro e _ ⟨_, _, _, _, rfl, hS, hc, hS2, hc2, hx⟩; obtain ⟨_, rfl⟩ := hx.out; clear hx)
          | (go_at_call 26; (with_reducible refine (f3 ?_ ?_ ?_ ?_ ?_ ?_ ?_ ?hq79 ?hq80 ?hq81 ?hq82 ?hq83).mono ?_); (case hq79 => (repeat' (first | with_reducible assumption | (with_reducible exact zeros16 _) | (with_reducible exact sl_new1 _ _ _) | (with_reducible first | apply Sl.upE | apply Sl.upA | apply Sl.upD)))); (case hq81 => (repeat' (first | with_reducible assumption | (with_reducible exact zeros16 _) | (with_reducible exact sl_new1 _ _ _) | (with_reducible first | apply Sl.upE | apply Sl.upA | apply Sl.upD)))); (case hq80 => omega); (case hq82 => omega); (case hq83 => omega); rintro e _ ⟨_, _, rfl, hS, hc, hx⟩; obtain ⟨_, rfl⟩ := hx.out; clear hx)
          | (go_at_call 39; (with_reducible refine (f4 ?_ ?_ ?_ ?_ ?_ ?_ ?_ ?hq84 ?hq85 ?hq86 ?hq87).mono ?_); (case hq84 => (repeat' (first | with_reducible assumption | (with_reducible exact zeros16 _) | (with_reducible exact sl_new1 _ _ _) | (with_reducible first | apply Sl.upE | apply Sl.upA | apply Sl.upD)))); (case hq85 => (repeat' (first | with_reducible assumption | (with_reducible exact zeros16 _) | (with_reducible exact sl_new1 _ _ _) | (with_reducible first | apply Sl.upE | apply Sl.upA | apply Sl.upD)))); (case hq86 => omega); (case hq87 => omega); rintro e _ ⟨_, _, rfl, hS, hc, hx⟩; obtain ⟨_, rfl⟩ := hx.out; clear hx)
          | (go_at_call 40; (with_reducible refine (f5 ?_ ?_ ?_ ?_ ?_ ?_ ?_ ?hq88 ?hq89 ?hq90 ?hq91).mono ?_); (case hq88 => (repeat' (first | with_reducible assumption | (with_reducible exact zeros16 _) | (with_reducible exact sl_new1 _ _ _) | (with_reducible first | apply Sl.upE | apply Sl.upA | apply Sl.upD)))); (case hq90 => (repeat' (first | with_reducible assumption | (refine bsc2 ?_ ?_ ?_ ?_ _; (· (repeat' (first | with_reducible assumption | (with_reducible exact zeros16 _) | (with_reducible exact sl_new1 _ _ _) | (with_reducible first | apply Sl.upE | apply Sl.upA | apply Sl.upD)))); (· omega); (· (repeat' (first | with_reducible assumption | (with_reducible exact zeros16 _) | (with_reducible exact sl_new1 _ _ _) | (with_reducible first | apply Sl.upE | apply Sl.upA | apply Sl.upD)))); (· omega)) | (with_reducible first | apply Bsc.upE | apply Bsc.upA | apply Bsc.upD)))); (case hq89 => omega); (case hq91 => omega); rintro e _ ⟨_, _, rfl, hS, hc, hx⟩; obtain ⟨_, rfl⟩ := hx.out; clear hx)
          | (go_at_call 41; (with_reducible refine (f6 ?_ ?_ ?_ ?_ ?_ ?_ ?_ ?hq92 ?hq93).mono ?_); (case hq92 => (repeat' (first | with_reducible assumption | (with_reducible exact zeros16 _) | (with_reducible exact sl_new1 _ _ _) | (with_reducible first | apply Sl.upE | apply Sl.upA | apply Sl.upD)))); (case hq93 => (repeat' (first | with_reducible assumption | (refine bsc2 ?_ ?_ ?_ ?_ _; (· (repeat' (first | with_reducible assumption | (with_reducible exact zeros16 _) | (with_reducible exact sl_new1 _ _ _) | (with_reducible first | apply Sl.upE | apply Sl.upA | apply Sl.upD)))); (· omega); (· (repeat' (first | with_reducible assumption | (with_reducible exact zeros16 _) | (with_reducible exact sl_new1 _ _ _) | (with_reducible first | apply Sl.upE | apply Sl.upA | apply Sl.upD)))); (· omega)) | (with_reducible first | apply Bsc.upE | apply Bsc.upA | apply Bsc.upD)))); rintro e _ ⟨_, _, rfl, hS, hc, hx⟩; obtain ⟨_, rfl⟩ := hx.out; clear hx)
          | (go_at_call 36; (with_reducible refine (double_full ?_ ?_ ?_ b ?_ ?hq94).mono ?_); (case hq94 => (repeat' (first | with_reducible assumption | (with_reducible exact zeros16 _) | (with_reducible exact sl_new1 _ _ _) | (with_reducible first | apply Sl.upE | apply Sl.upA | apply Sl.upD)))); rintro e _ ⟨_, _, rfl, hS, hc, hx⟩; obtain ⟨_, rfl⟩ := hx.out; clear hx)
          | (go_at_call 43; (with_reducible refine (rdouble_full ?_ ?_ ?_ b ?_ ?hq95).mono ?_); (case hq95 => (repeat' (first | with_reducible assumption | (with_reducible exact zeros16 _) | (with_reducible exact sl_new1 _ _ _) | (with_reducible first | apply Sl.upE | apply Sl.upA | apply Sl.upD)))); rintro e _ ⟨_, _, rfl, hS, hc, hx⟩; obtain ⟨_, rfl⟩ := hx.out; clear hx)
          | (go_at_call 27; refine (known5_any _).mono ?_; rintro e w1 ⟨rfl, hxq⟩; obtain ⟨xq, rfl⟩ := hxq.out; clear hxq)
          | (go_at_call 21; (with_reducible refine (same_any ?_ ?_ ?_ ?_ ?_ ?_ ?_ ?_ ?_ ?hq99 ?hq100).mono ?_); (case hq99 => (repeat' (first | with_reducible assumption | (with_reducible exact zeros16 _) | (with_reducible exact sl_new1 _ _ _) | (with_reducible first | apply Sl.upE | apply Sl.upA | apply Sl.upD)))); (case hq100 => (repeat' (first | with_reducible assumption | (with_reducible exact zeros16 _) | (with_reducible exact sl_new1 _ _ _) | (with_reducible first | apply Sl.upE | apply Sl.upA | apply Sl.upD)))); rintro e w1 ⟨rfl, hxq⟩; obtain ⟨xq, rfl⟩ := hxq.out; clear hxq)
          | fail)
        go_returns
        exact ⟨rfl, (by repeat (first | (with_reducible first | exact Ext.refl _ | assumption | apply Ext.alloc | apply Ext.ext | apply Ext.drew | refine Ext.setCell ?_ ?_ _) | (focus (simp [go_sem]; done))))⟩
end Go.Proofs.Ythooaeeajeajnaa
