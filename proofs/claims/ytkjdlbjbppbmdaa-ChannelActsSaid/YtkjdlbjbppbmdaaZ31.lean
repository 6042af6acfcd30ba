/- Lemmas of this claim, several texts joined. -/
import Derived.Test.YtkjdlbjbppbmdaaZ2
import Derived.Test.YtkjdlbjbppbmdaaZ3
import Derived.Test.YtkjdlbjbppbmdaaZ19
import Derived.Test.YtkjdlbjbppbmdaaZ30
set_option linter.unusedVariables false
set_option linter.unusedSimpArgs false
/- The walks of layer 20: copies, Export, Renew. -/
namespace Go.Sec
open Go.RowKit Go.Chan
structure ChQ (c : Ch) (p : Par) (w : World) : Prop where
  s1 : Sl w (p 0).1 c.sec.length c.sec
  k1 : c.sec.length ≤ (p 0).2
  s2 : Sl w (p 1).1 c.snd.length c.snd
  k2 : c.snd.length ≤ (p 1).2
  s3 : Sl w (p 2).1 c.rcv.length c.rcv
  k3 : c.rcv.length ≤ (p 2).2
theorem ChQ.ext {c : Ch} {p : Par} {w w' : World} (h : ChQ c p w) (hx : Ext w w') : ChQ c p w' := ⟨h.s1.ext hx, h.k1, h.s2.ext hx, h.k2, h.s3.ext hx, h.k3⟩
theorem vag_ch {P : Program} {f : FuncId} {args : Array Value} {w : World} {c : Ch} (h : Calls P f args w (ChP c w)) :
    Calls P f args w fun e w' => ∃ x, e = .returned x ∧ ∃ p : Par, x = .agg #[.bool c.cl, .slice (p 0).1 c.sec.length (p 0).2, .slice (p 1).1 c.snd.length (p 1).2, .slice (p 2).1 c.rcv.length (p 2).2, .int .i64 c.st, .int .i64 c.rc] ∧ Ext w w' ∧ ChQ c p w' :=
  h.mono fun _ _ ⟨v, he, ⟨a1, c1, a2, c2, a3, c3, hv, h1, k1, h2, k2, h3, k3⟩, hx⟩ => ⟨v, he, fun i => if i = 0 then (a1, c1) else if i = 1 then (a2, c2) else (a3, c3), hv, hx, h1, k1, h2, k2, h3, k3⟩
def chCells (c : Ch) (p : Par) : List Value := [.bool c.cl, .slice (p 0).1 c.sec.length (p 0).2, .slice (p 1).1 c.snd.length (p 1).2, .slice (p 2).1 c.rcv.length (p 2).2, .int .i64 c.st, .int .i64 c.rc]
theorem chCells_one (c : Ch) (p : Par) : ∀ v ∈ chCells c p, v.oneCell' = true := by
  intro v hv
  simp only [chCells, List.mem_cons, List.not_mem_nil, or_false] at hv
  rcases hv with rfl | rfl | rfl | rfl | rfl | rfl <;> rfl
theorem chCells_no (c : Ch) (p : Par) : ∀ v ∈ chCells c p, ∀ x, v ≠ .int .u8 x := by
  intro v hv x e
  simp only [chCells, List.mem_cons, List.not_mem_nil, or_false] at hv
  rcases hv with rfl | rfl | rfl | rfl | rfl | rfl <;> cases e
end Go.Sec
namespace Go.Proofs.Ytkjdlbjbppbmdaa
open Go.RowKit Go.Sec Go.Oct Go.Sha Go.Aes Go.Chan BigFrame

set_option maxRecDepth 100000 in
set_option maxHeartbeats 4000000 in
theorem renew_any (v : Value) (ch : Ch) (b : Option Addr) (m d : Nat) (fresh : List UInt8) (w : World) (hv : ChR w v ch) (hs : ch.sec.length ≤ 1000000) (hl : Sl w b m fresh) (hmd : m ≤ d) (hm : m ≤ 1000000) :
    Calls Try.prog 49 #[v, .slice b m d] w fun e w' => ∃ v', e = .returned (.tuple #[v', .int .i64 (renewE ch fresh).2]) ∧ ChR w' v' (renewE ch fresh).1 ∧ Ext w w' := by
  have hll := hl.len
  have hval := fun W h => valid_any v ch W h hs
  obtain ⟨a1, c1, a2, c2, a3, c3, rfl, h1, k1, h2, k2, h3, k3⟩ := id hv
  cases hV : validC ch
  · have e : renewE ch fresh = (zeroCh, 3) := by unfold renewE; rw [if_pos hV]
    rw [e]
    rw [hV] at hval
    clear hll e
    go_enter Try.func49, Try.ntmps49
    go_wp2_with (first | (go_at_call 51; (with_reducible refine (hval ?_ ?hq139).mono ?_); (case hq139 => (repeat' (first | with_reducible assumption | (with_reducible first | apply ChR.upE | apply ChR.upA | apply ChR.upD)))); rintro e w1 ⟨rfl, hxq⟩; obtain ⟨xq, rfl⟩ := hxq.out; clear hxq) | fail)
    refine bodyPost_ret (v := .tuple #[.agg #[.bool false, .slice none 0 0, .slice none 0 0, .slice none 0 0, .int .i64 0, .int .i64 0], .int .i64 3]) (by simp [results, Try.results49, go_sem]) rfl ?_
    exact ⟨_, rfl, ChR.zero _, (by repeat (first | (with_reducible first | exact Ext.refl _ | assumption | apply Ext.alloc | apply Ext.ext | apply Ext.drew | refine Ext.setCell ?_ ?_ _) | (focus (simp [go_sem]; done))))⟩
  · rw [hV] at hval
    by_cases h16 : fresh.length < 16
    · have e : renewE ch fresh = (zeroCh, 5) := by unfold renewE; rw [if_neg (by rw [hV]; simp), if_pos (.inl h16)]
      rw [e]
      have hI1 : (m : Int) < 16 := by omega
      clear hll e
      go_enter Try.func49, Try.ntmps49
      go_wp2_with (first | (go_at_call 51; (with_reducible refine (hval ?_ ?hq140).mono ?_); (case hq140 => (repeat' (first | with_reducible assumption | (with_reducible first | apply ChR.upE | apply ChR.upA | apply ChR.upD)))); rintro e w1 ⟨rfl, hxq⟩; obtain ⟨xq, rfl⟩ := hxq.out; clear hxq) | fail)
      refine bodyPost_ret (v := .tuple #[.agg #[.bool false, .slice none 0 0, .slice none 0 0, .slice none 0 0, .int .i64 0, .int .i64 0], .int .i64 5]) (by simp [results, Try.results49, go_sem]) rfl ?_
      exact ⟨_, rfl, ChR.zero _, (by repeat (first | (with_reducible first | exact Ext.refl _ | assumption | apply Ext.alloc | apply Ext.ext | apply Ext.drew | refine Ext.setCell ?_ ?_ _) | (focus (simp [go_sem]; done))))⟩
    · by_cases h64 : 64 < fresh.length
      · have e : renewE ch fresh = (zeroCh, 5) := by unfold renewE; rw [if_neg (by rw [hV]; simp), if_pos (.inr h64)]
        rw [e]
        have hI1 : ¬ (m : Int) < 16 := by omega
        have hI2 : (64 : Int) < (m : Int) := by omega
        clear hll e
        go_enter Try.func49, Try.ntmps49
        go_wp2_with (first | (go_at_call 51; (with_reducible refine (hval ?_ ?hq141).mono ?_); (case hq141 => (repeat' (first | with_reducible assumption | (with_reducible first | apply ChR.upE | apply ChR.upA | apply ChR.upD)))); rintro e w1 ⟨rfl, hxq⟩; obtain ⟨xq, rfl⟩ := hxq.out; clear hxq) | fail)
        refine bodyPost_ret (v := .tuple #[.agg #[.bool false, .slice none 0 0, .slice none 0 0, .slice none 0 0, .int .i64 0, .int .i64 0], .int .i64 5]) (by simp [results, Try.results49, go_sem]) rfl ?_
        exact ⟨_, rfl, ChR.zero _, (by repeat (first | (with_reducible first | exact Ext.refl _ | assumption | apply Ext.alloc | apply Ext.ext | apply Ext.drew | refine Ext.setCell ?_ ?_ _) | (focus (simp [go_sem]; done))))⟩
      · have e := Lib.hid (show renewE ch fresh = (keyed ch.cl (hmac fresh ch.sec) 0 0, 0) by unfold renewE; rw [if_neg (by rw [hV]; simp), if_neg (by omega)])
        have hI1 : ¬ (m : Int) < 16 := by omega
        have hI2 : ¬ (64 : Int) < (m : Int) := by omega
        have h32 := Lib.hid (valid_keyed hV).1.1
        rw [e.out]
        clear hll
        generalize hky : hmac fresh ch.sec = ky at e ⊢
        have hkyl := Lib.hid (show ky.length = 32 by rw [← hky]; exact hmac_length _ _)
        go_enter Try.func49, Try.ntmps49
        go_wp2_with (first | (go_at_call 51; (with_reducible refine (hval ?_ ?hq142).mono ?_); (case hq142 => (repeat' (first | with_reducible assumption | (with_reducible first | apply ChR.upE | apply ChR.upA | apply ChR.upD)))); rintro e w1 ⟨rfl, hxq⟩; obtain ⟨xq, rfl⟩ := hxq.out; clear hxq) | fail)
        obtain ⟨W, hW⟩ : ∃ W, W = ((w.alloc (.cells #[.bool ch.cl, .slice a1 ch.sec.length c1, .slice a2 ch.snd.length c2, .slice a3 ch.rcv.length c3, .int .i64 ch.st, .int .i64 ch.rc] 24)).alloc (.cells #[.bool false, .slice none 0 0, .slice none 0 0, .slice none 0 0, .int .i64 0, .int .i64 0] 24)).ext xq := ⟨_, rfl⟩
        rw [← hW]
        have hEX : Ext w W := by rw [hW]; exact (by repeat (first | (with_reducible first | exact Ext.refl _ | assumption | apply Ext.alloc | apply Ext.ext | apply Ext.drew | refine Ext.setCell ?_ ?_ _) | (focus (simp [go_sem]; done))))
        have hB0 : Blk W w.heap.size 24 [.bool ch.cl, .slice a1 ch.sec.length c1, .slice a2 ch.snd.length c2, .slice a3 ch.rcv.length c3, .int .i64 ch.st, .int .i64 ch.rc] := by rw [hW]; exact ((Blk.new w #[.bool ch.cl, .slice a1 ch.sec.length c1, .slice a2 ch.snd.length c2, .slice a3 ch.rcv.length c3, .int .i64 ch.st, .int .i64 ch.rc] 24).alloc _).ext xq
        have hR : Blk W (w.heap.size + 1) 24 [.bool false, .slice none 0 0, .slice none 0 0, .slice none 0 0, .int .i64 0, .int .i64 0] := by rw [hW]; exact (Blk.newAt _ #[.bool false, .slice none 0 0, .slice none 0 0, .slice none 0 0, .int .i64 0, .int .i64 0] 24 (w.heap.size + 1) (by simp)).ext xq
        clear hW
        have f0 := hB0.cell? 0 rfl
        have f1 := hB0.cell? 1 rfl
        haveI := hB0.blt
        haveI := hR.blt
        refine wp_region_vague 7 [[], [0], [], [], [3], [2, 3, 4], [0, 1, 2, 3, 4, 5], [0, 1, 2, 3, 4, 5, 6], [0, 1, 2, 3, 4, 5, 6, 7]] (by kernel_rfl) (by kernel_rfl) (by kernel_rfl) (by kernel_rfl) ?_; simp only [List.take_succ_cons, List.take_zero, List.drop_succ_cons, List.drop_zero, List.take_nil, List.drop_nil]
        (repeat (apply VD_der; (case h => (intro us w' hx hf; obtain ⟨x, rfl⟩ := hx.out; refine ⟨rfl, ?_⟩; simp [go_sem, execOp, *]; (try simp (disch := omega) only [Go.IntWalk.i64_in, Go.IntWalk.rem_in, Go.IntWalk.wrap64_in]); rfl)); (try simp only [Act.put, List.setIfInBounds_toArray, List.set_cons_succ, List.set_cons_zero])))
        (refine VD_vag (fun p => .slice (p 0).1 (32) (p 0).2) (fun p w'' => Own w'' 0 (p 0).1 (32) (p 0).2 (ky)) (fun p w w' h hx => h.ext hx) (fun us w' hx hf => ⟨rfl, ?_⟩) ?_; (unfold gives; simp [go_sem, execOp]; exact vag_fresh (Nat.zero_le _) ((by have := extract_any b a1 m d ch.sec.length c1 fresh ch.sec w' (hl.ext (hEX.trans hx)) hmd (by omega) (h1.ext (hEX.trans hx)) (by have := h32.out; omega); rwa [hky] at this))))
        (refine VD_vag (fun p => .agg #[.bool (keyed ch.cl ky 0 0).cl, .slice (p 0).1 (keyed ch.cl ky 0 0).sec.length (p 0).2, .slice (p 1).1 (keyed ch.cl ky 0 0).snd.length (p 1).2, .slice (p 2).1 (keyed ch.cl ky 0 0).rcv.length (p 2).2, .int .i64 (keyed ch.cl ky 0 0).st, .int .i64 (keyed ch.cl ky 0 0).rc]) (fun p w'' => ChQ (keyed ch.cl ky 0 0) p w'') (fun p w w' h hx => by first | exact h.ext hx | exact ⟨h.1.ext hx, h.2.ext hx⟩ | exact ⟨h.1.ext hx, h.2⟩ | exact ⟨h.1.ext hx, h.2.1.ext hx, h.2.2.ext hx⟩) (fun us w' hx hf => ⟨rfl, ?_⟩) ?_; (unfold gives; simp [go_sem, execOp]; exact vag_ch (keyed_any ch.cl _ _ _ ky _ (Own.sl (by exact (hf _ (List.mem_append_right _ (List.mem_singleton_self _)) rfl))) (Own.le (by exact (hf _ (List.mem_append_right _ (List.mem_singleton_self _)) rfl))).1 (by omega))))
        (refine VD_nil ?_; intro us w' hx hf; obtain ⟨x, rfl⟩ := hx.out; (try simp only [Act.put, List.setIfInBounds_toArray, List.set_cons_succ, List.set_cons_zero, wpList_none]); (try simp only [List.mem_cons, List.not_mem_nil, or_false, forall_eq_or_imp, forall_eq, List.nil_append, List.cons_append, List.mem_append, false_or, true_and, and_true] at hf); (try simp only [Nat.reduceAdd, Nat.zero_add] at hf); (try simp only [Nat.reduceAdd, Nat.zero_add]))
        obtain ⟨_, hq⟩ := hf
        go_wp2_with (first
          | (refine wpList_store_arr (RC6) rfl _ _ rfl (w.heap.size + 1) (0) rfl (chCells (keyed ch.cl ky 0 0) (us 6)) rfl (24) _ ((hR.ext _)) (rfl) (by simp) (chCells_one _ _) ?_; intro w9 hB9 hM9)
          | fail)
        have hE8 := hEX.ext x
        have hE9 : Ext w w9 := Below.trans hE8 (hM9.below (by omega) hE8.size)
        refine bodyPost_ret (results_arr_tmp Try.results49 (RC6) _ _ (w.heap.size + 1) (0) (chCells (keyed ch.cl ky 0 0) (us 6)) rfl (hB9.rd) (rfl) (.int .i64 0) rfl) rfl ?_
        exact ⟨_, rfl, ChR.mk (c := keyed ch.cl ky 0 0) (Sl.mut hq.s1 (hR.ext _) (by simp) hM9) hq.k1 (Sl.mut hq.s2 (hR.ext _) (by simp) hM9) hq.k2 (Sl.mut hq.s3 (hR.ext _) (by simp) hM9) hq.k3, hE9⟩

theorem vag_rdl {P : Program} {f : FuncId} {args : Array Value} {w : World} {n : Nat} {l : List UInt8} (h : Calls P f args w (Rdl n l w)) :
    Calls P f args w fun e w' => ∃ x, e = .returned x ∧ ∃ p : Par, x = .slice (p 0).1 n (p 0).2 ∧ Ext w w' ∧ Sl w' (p 0).1 n l ∧ n ≤ (p 0).2 :=
  h.mono fun _ _ ⟨a, c, he, hS, hc, hx⟩ => ⟨_, he, fun _ => (a, c), rfl, hx, hS, hc⟩
set_option maxRecDepth 100000 in
theorem expand_no (a b : Option Addr) (n c m d : Nat) (k : Int) (w : World) (hk : k < 0 ∨ 8160 < k) :
    Calls Try.prog 121 #[.slice a n c, .slice b m d, .int .i64 k] w fun e w' => e = .returned (.tuple #[.slice none 0 0, .int .i64 4]) ∧ Ext w w' := by
  by_cases h0 : k < 0
  · clear hk
    go_enter Try.func121, Try.ntmps121
    go_wp2
    go_ret2
    exact ⟨rfl, Ext.refl _⟩
  · have h1 : 8160 < k := by omega
    clear hk
    go_enter Try.func121, Try.ntmps121
    go_wp2
    go_ret2
    exact ⟨rfl, Ext.refl _⟩

set_option maxRecDepth 100000 in
set_option maxHeartbeats 4000000 in
theorem export_any (v : Value) (ch : Ch) (name : List UInt8) (b : Option Addr) (m d : Nat) (ctx : List UInt8) (k : Int) (w : World) (hv : ChR w v ch) (hs : ch.sec.length ≤ 1000000) (hl : Sl w b m ctx) (hmd : m ≤ d) (hm : m ≤ 1000000) (hn : name.length ≤ 10000) :
    Calls Try.prog 64 #[v, .string ⟨name.toArray⟩, .slice b m d, .int .i64 k] w (Read2 (exportE ch name ctx k).1.length (exportE ch name ctx k).1 (.int .i64 (exportE ch name ctx k).2) w) := by
  have hval := fun W h => valid_any v ch W h hs
  obtain ⟨a1, c1, a2, c2, a3, c3, rfl, h1, k1, h2, k2, h3, k3⟩ := id hv
  cases hV : validC ch
  · have e : exportE ch name ctx k = ([], 3) := by unfold exportE; rw [if_pos hV]
    rw [e]
    rw [hV] at hval
    clear e
    go_enter Try.func64, Try.ntmps64
    go_wp2_with (first | (go_at_call 51; (with_reducible refine (hval ?_ ?hq143).mono ?_); (case hq143 => (repeat' (first | with_reducible assumption | (with_reducible first | apply ChR.upE | apply ChR.upA | apply ChR.upD)))); rintro e w1 ⟨rfl, hxq⟩; obtain ⟨xq, rfl⟩ := hxq.out; clear hxq) | fail)
    go_ret2
    exact read2_err _ _ _ (by repeat (first | (with_reducible first | exact Ext.refl _ | assumption | apply Ext.alloc | apply Ext.ext | apply Ext.drew | refine Ext.setCell ?_ ?_ _) | (focus (simp [go_sem]; done))))
  · rw [hV] at hval
    have h32 := Lib.hid (valid_keyed hV).1.1
    by_cases hr : k < 0 ∨ 8160 < k
    · have e : exportE ch name ctx k = ([], 4) := by unfold exportE; rw [if_neg (by rw [hV]; simp), if_pos hr]
      rw [e]
      have hno := fun a1 c1 a2 n2 c2 W => expand_no a1 a2 ch.sec.length c1 n2 c2 k W hr
      clear e hr
      go_enter Try.func64, Try.ntmps64
      go_wp2_with (first | (go_at_call 51; (with_reducible refine (hval ?_ ?hq144).mono ?_); (case hq144 => (repeat' (first | with_reducible assumption | (with_reducible first | apply ChR.upE | apply ChR.upA | apply ChR.upD)))); rintro e w1 ⟨rfl, hxq⟩; obtain ⟨xq, rfl⟩ := hxq.out; clear hxq) | fail)
      obtain ⟨W, hW⟩ : ∃ W, W = (w.alloc (.cells #[.bool ch.cl, .slice a1 ch.sec.length c1, .slice a2 ch.snd.length c2, .slice a3 ch.rcv.length c3, .int .i64 ch.st, .int .i64 ch.rc] 24)).ext xq := ⟨_, rfl⟩
      rw [← hW]
      have hEX : Ext w W := by rw [hW]; exact (by repeat (first | (with_reducible first | exact Ext.refl _ | assumption | apply Ext.alloc | apply Ext.ext | apply Ext.drew | refine Ext.setCell ?_ ?_ _) | (focus (simp [go_sem]; done))))
      have hB0 : Blk W w.heap.size 24 [.bool ch.cl, .slice a1 ch.sec.length c1, .slice a2 ch.snd.length c2, .slice a3 ch.rcv.length c3, .int .i64 ch.st, .int .i64 ch.rc] := by rw [hW]; exact (Blk.new w #[.bool ch.cl, .slice a1 ch.sec.length c1, .slice a2 ch.snd.length c2, .slice a3 ch.rcv.length c3, .int .i64 ch.st, .int .i64 ch.rc] 24).ext xq
      clear hW
      have f1 := hB0.cell? 1 rfl
      haveI := hB0.blt
      refine wp_region_vague 9 [[], [0], [], [], [2, 3], [], [0, 1, 2, 3, 4, 5], [0, 1, 2, 3, 4, 5, 6], [0, 1, 2, 3, 4, 5, 6], [0, 1, 2, 3, 4, 5, 6, 7, 8], [0, 1, 2, 3, 4, 5, 6, 7, 8, 9]] (by kernel_rfl) (by kernel_rfl) (by kernel_rfl) (by kernel_rfl) ?_; simp only [List.take_succ_cons, List.take_zero, List.drop_succ_cons, List.drop_zero, List.take_nil, List.drop_nil]
      (repeat (apply VD_der; (case h => (intro us w' hx hf; obtain ⟨x, rfl⟩ := hx.out; refine ⟨rfl, ?_⟩; simp [go_sem, execOp, *]; (try simp (disch := omega) only [Go.IntWalk.i64_in, Go.IntWalk.rem_in, Go.IntWalk.wrap64_in]); rfl)); (try simp only [Act.put, List.setIfInBounds_toArray, List.set_cons_succ, List.set_cons_zero])))
      (refine VD_vag (fun p => .slice (p 0).1 (expS.length + name.length + 34) (p 0).2) (fun p w'' => Sl w'' (p 0).1 (expS.length + name.length + 34) (labelK expS name ctx) ∧ expS.length + name.length + 34 ≤ (p 0).2) (fun p w w' h hx => by first | exact h.ext hx | exact ⟨h.1.ext hx, h.2.ext hx⟩ | exact ⟨h.1.ext hx, h.2⟩ | exact ⟨h.1.ext hx, h.2.1.ext hx, h.2.2.ext hx⟩) (fun us w' hx hf => ⟨rfl, ?_⟩) ?_; (unfold gives; simp [go_sem, execOp]; exact vag_rdl (label_any b m d expS name ctx w' (hl.ext (hEX.trans hx)) hmd hm (by decide) hn)))
      (repeat (apply VD_der; (case h => (intro us w' hx hf; obtain ⟨x, rfl⟩ := hx.out; refine ⟨rfl, ?_⟩; simp [go_sem, execOp, *]; (try simp (disch := omega) only [Go.IntWalk.i64_in, Go.IntWalk.rem_in, Go.IntWalk.wrap64_in]); rfl)); (try simp only [Act.put, List.setIfInBounds_toArray, List.set_cons_succ, List.set_cons_zero])))
      (refine VD_vag (fun _ => .tuple #[.slice none 0 0, .int .i64 4]) (fun _ _ => True) (fun _ _ _ _ _ => trivial) (fun us w' hx hf => ⟨rfl, ?_⟩) ?_; (unfold gives; simp [go_sem, execOp]; refine (hno _ _ _ _ _ _).mono ?_; rintro e w1 ⟨rfl, hx1⟩; first | exact ⟨rfl, hx1⟩ | simpa using hx1))
      (repeat (apply VD_der; (case h => (intro us w' hx hf; obtain ⟨x, rfl⟩ := hx.out; refine ⟨rfl, ?_⟩; simp [go_sem, execOp, *]; (try simp (disch := omega) only [Go.IntWalk.i64_in, Go.IntWalk.rem_in, Go.IntWalk.wrap64_in]); rfl)); (try simp only [Act.put, List.setIfInBounds_toArray, List.set_cons_succ, List.set_cons_zero])))
      (refine VD_nil ?_; intro us w' hx hf; obtain ⟨x, rfl⟩ := hx.out; (try simp only [Act.put, List.setIfInBounds_toArray, List.set_cons_succ, List.set_cons_zero, wpList_none]); (try simp only [List.mem_cons, List.not_mem_nil, or_false, forall_eq_or_imp, forall_eq, List.nil_append, List.cons_append, List.mem_append, false_or, true_and, and_true] at hf); (try simp only [Nat.reduceAdd, Nat.zero_add] at hf); (try simp only [Nat.reduceAdd, Nat.zero_add]))
      go_wp2
      go_ret2
      exact read2_err _ _ _ (hEX.trans (Ext.of_ext _ _))
    · have hk0 : 0 ≤ k := by omega
      obtain ⟨q, rfl⟩ : ∃ q : Nat, k = (q : Int) := ⟨k.toNat, by omega⟩
      have e := Lib.hid (show exportE ch name ctx (q : Int) = (expandK ch.sec (labelK expS name ctx) q, 0) by unfold exportE; rw [if_neg (by rw [hV]; simp), if_neg hr]; simp)
      have hq8 : q ≤ 8160 := by omega
      rw [e.out]
      show Calls _ _ _ _ (Read2 (expandK ch.sec (labelK expS name ctx) q).length _ _ _)
      rw [expandK_length]
      have hex := fun a2 n2 c2 W hS hn2 h2 => expand_any a1 a2 ch.sec.length c1 n2 c2 q rfl ch.sec (labelK expS name ctx) W hS k1 hs h2 hn2 hq8
      clear hr e
      go_enter Try.func64, Try.ntmps64
      go_wp2_with (first | (go_at_call 51; (with_reducible refine (hval ?_ ?hq145).mono ?_); (case hq145 => (repeat' (first | with_reducible assumption | (with_reducible first | apply ChR.upE | apply ChR.upA | apply ChR.upD)))); rintro e w1 ⟨rfl, hxq⟩; obtain ⟨xq, rfl⟩ := hxq.out; clear hxq) | fail)
      obtain ⟨W, hW⟩ : ∃ W, W = (w.alloc (.cells #[.bool ch.cl, .slice a1 ch.sec.length c1, .slice a2 ch.snd.length c2, .slice a3 ch.rcv.length c3, .int .i64 ch.st, .int .i64 ch.rc] 24)).ext xq := ⟨_, rfl⟩
      rw [← hW]
      have hEX : Ext w W := by rw [hW]; exact (by repeat (first | (with_reducible first | exact Ext.refl _ | assumption | apply Ext.alloc | apply Ext.ext | apply Ext.drew | refine Ext.setCell ?_ ?_ _) | (focus (simp [go_sem]; done))))
      have hB0 : Blk W w.heap.size 24 [.bool ch.cl, .slice a1 ch.sec.length c1, .slice a2 ch.snd.length c2, .slice a3 ch.rcv.length c3, .int .i64 ch.st, .int .i64 ch.rc] := by rw [hW]; exact (Blk.new w #[.bool ch.cl, .slice a1 ch.sec.length c1, .slice a2 ch.snd.length c2, .slice a3 ch.rcv.length c3, .int .i64 ch.st, .int .i64 ch.rc] 24).ext xq
      clear hW
      have f1 := hB0.cell? 1 rfl
      haveI := hB0.blt
      refine wp_region_vague 9 [[], [0], [], [], [2, 3], [], [0, 1, 2, 3, 4, 5], [0, 1, 2, 3, 4, 5, 6], [0, 1, 2, 3, 4, 5, 6], [0, 1, 2, 3, 4, 5, 6, 7, 8], [0, 1, 2, 3, 4, 5, 6, 7, 8, 9]] (by kernel_rfl) (by kernel_rfl) (by kernel_rfl) (by kernel_rfl) ?_; simp only [List.take_succ_cons, List.take_zero, List.drop_succ_cons, List.drop_zero, List.take_nil, List.drop_nil]
      (repeat (apply VD_der; (case h => (intro us w' hx hf; obtain ⟨x, rfl⟩ := hx.out; refine ⟨rfl, ?_⟩; simp [go_sem, execOp, *]; (try simp (disch := omega) only [Go.IntWalk.i64_in, Go.IntWalk.rem_in, Go.IntWalk.wrap64_in]); rfl)); (try simp only [Act.put, List.setIfInBounds_toArray, List.set_cons_succ, List.set_cons_zero])))
      (refine VD_vag (fun p => .slice (p 0).1 (expS.length + name.length + 34) (p 0).2) (fun p w'' => Sl w'' (p 0).1 (expS.length + name.length + 34) (labelK expS name ctx) ∧ expS.length + name.length + 34 ≤ (p 0).2) (fun p w w' h hx => by first | exact h.ext hx | exact ⟨h.1.ext hx, h.2.ext hx⟩ | exact ⟨h.1.ext hx, h.2⟩ | exact ⟨h.1.ext hx, h.2.1.ext hx, h.2.2.ext hx⟩) (fun us w' hx hf => ⟨rfl, ?_⟩) ?_; (unfold gives; simp [go_sem, execOp]; exact vag_rdl (label_any b m d expS name ctx w' (hl.ext (hEX.trans hx)) hmd hm (by decide) hn)))
      (repeat (apply VD_der; (case h => (intro us w' hx hf; obtain ⟨x, rfl⟩ := hx.out; refine ⟨rfl, ?_⟩; simp [go_sem, execOp, *]; (try simp (disch := omega) only [Go.IntWalk.i64_in, Go.IntWalk.rem_in, Go.IntWalk.wrap64_in]); rfl)); (try simp only [Act.put, List.setIfInBounds_toArray, List.set_cons_succ, List.set_cons_zero])))
      (refine VD_vag (fun p => .tuple #[.slice (p 0).1 (q) (p 0).2, .int .i64 0]) (fun p w'' => Sl w'' (p 0).1 (q) (expandK ch.sec (labelK expS name ctx) q) ∧ (q) ≤ (p 0).2) (fun p w w' h hx => ⟨h.1.ext hx, h.2⟩) (fun us w' hx hf => ⟨rfl, ?_⟩) ?_; (unfold gives; simp [go_sem, execOp]; exact vag_read (hex _ _ _ _ (h1.ext (hEX.trans hx)) (by have : expS.length = 14 := rfl; omega) (by exact (hf _ (List.mem_append_right _ (List.mem_singleton_self _)) rfl).1))))
      (repeat (apply VD_der; (case h => (intro us w' hx hf; obtain ⟨x, rfl⟩ := hx.out; refine ⟨rfl, ?_⟩; simp [go_sem, execOp, *]; (try simp (disch := omega) only [Go.IntWalk.i64_in, Go.IntWalk.rem_in, Go.IntWalk.wrap64_in]); rfl)); (try simp only [Act.put, List.setIfInBounds_toArray, List.set_cons_succ, List.set_cons_zero])))
      (refine VD_nil ?_; intro us w' hx hf; obtain ⟨x, rfl⟩ := hx.out; (try simp only [Act.put, List.setIfInBounds_toArray, List.set_cons_succ, List.set_cons_zero, wpList_none]); (try simp only [List.mem_cons, List.not_mem_nil, or_false, forall_eq_or_imp, forall_eq, List.nil_append, List.cons_append, List.mem_append, false_or, true_and, and_true] at hf); (try simp only [Nat.reduceAdd, Nat.zero_add] at hf); (try simp only [Nat.reduceAdd, Nat.zero_add]))
      obtain ⟨_, hS, hc⟩ := hf
      go_wp2
      go_ret2
      exact ⟨_, _, rfl, hS, hc, hEX.trans (Ext.of_ext _ _)⟩
end Go.Proofs.Ytkjdlbjbppbmdaa

/- The walks of layer 20: copies, Send. -/
namespace Go.Proofs.Ytkjdlbjbppbmdaa
open Go.RowKit Go.Sec Go.Oct Go.Sha Go.Aes Go.Chan BigFrame

theorem n64_int (k : Int) (h : 0 ≤ k) (h2 : k < 18446744073709551616) : IntKind.u64.wrap k = n64 (UInt64.ofNat k.toNat) := by
  unfold n64
  rw [IntKind.wrap_u64, UInt64.toNat_ofNat']
  omega

set_option maxRecDepth 100000 in
theorem data_any (st : Int) (b : Option Addr) (m d : Nat) (head : List UInt8) (w : World) (hl : Sl w b m head) (hmd : m ≤ d) (h0 : 0 ≤ st) (h1 : st < 4611686018427387904) :
    Calls Try.prog 92 #[.int .i64 st, .slice b m d] w fun e w' => ∃ a c, e = .returned (.slice a 2 c) ∧ 2 ≤ c ∧ Bsc w' a 2 [num8 st, head] ∧ Ext w w' := by
  have hw := n64_int st h0 (by omega)
  have hput := fun W => oput_any (UInt64.ofNat st.toNat) 8 rfl (show (8 : Int) = ((8 : Nat) : Int) from rfl) W (by omega)
  have hn : num8 st = putL 8 (UInt64.ofNat st.toNat) := rfl
  rw [← hn] at hput
  clear hn
  generalize num8 st = pp at *
  go_enter Try.func92, Try.ntmps92
  go_wp2_with fail; (with_reducible refine (hput _).mono ?_); rintro e w1 ⟨a1, c1, rfl, hO1, hx1⟩
  have hle1 := hO1.le
  go_wp2
  go_ret
  exact ⟨_, _, rfl, by omega, bsc2 hO1.sl hle1.1 (hl.ext hx1) hmd _, hx1.trans (Ext.of_alloc _ _)⟩

set_option maxRecDepth 100000 in
set_option maxHeartbeats 4000000 in
theorem copied_any (v : Value) (ch : Ch) (st rc : Int) (w : World) (hv : ChR w v ch) (hs : ch.sec.length ≤ 1000000) :
    Calls Try.prog 93 #[v, .int .i64 st, .int .i64 rc] w (ChP (keyed ch.cl ch.sec st rc) w) := by
  obtain ⟨a1, c1, a2, c2, a3, c3, rfl, h1, k1, h2, k2, h3, k3⟩ := id hv
  have hsl : ((keyed ch.cl ch.sec 0 0).sec).length = ch.sec.length := rfl
  go_enter Try.func93, Try.ntmps93
  go_wp2_with fail
  obtain ⟨W, hW⟩ : ∃ W, W = (w.alloc (.cells #[.bool ch.cl, .slice a1 ch.sec.length c1, .slice a2 ch.snd.length c2, .slice a3 ch.rcv.length c3, .int .i64 ch.st, .int .i64 ch.rc] 24)).alloc (.cells #[.bool false, .slice none 0 0, .slice none 0 0, .slice none 0 0, .int .i64 0, .int .i64 0] 24) := ⟨_, rfl⟩
  rw [← hW]
  have hEX : Ext w W := by rw [hW]; exact (by repeat (first | (with_reducible first | exact Ext.refl _ | assumption | apply Ext.alloc | apply Ext.ext | apply Ext.drew | refine Ext.setCell ?_ ?_ _) | (focus (simp [go_sem]; done))))
  have hB0 : Blk W w.heap.size 24 [.bool ch.cl, .slice a1 ch.sec.length c1, .slice a2 ch.snd.length c2, .slice a3 ch.rcv.length c3, .int .i64 ch.st, .int .i64 ch.rc] := by rw [hW]; exact (Blk.new w #[.bool ch.cl, .slice a1 ch.sec.length c1, .slice a2 ch.snd.length c2, .slice a3 ch.rcv.length c3, .int .i64 ch.st, .int .i64 ch.rc] 24).alloc _
  have hR : Blk W (w.heap.size + 1) 24 [.bool false, .slice none 0 0, .slice none 0 0, .slice none 0 0, .int .i64 0, .int .i64 0] := by rw [hW]; exact Blk.newAt _ #[.bool false, .slice none 0 0, .slice none 0 0, .slice none 0 0, .int .i64 0, .int .i64 0] 24 (w.heap.size + 1) (by simp)
  clear hW
  have f0 := hB0.cell? 0 rfl
  have f1 := hB0.cell? 1 rfl
  haveI := hB0.blt
  haveI := hR.blt
  refine R2.wp_region_vague 8 [[], [0], [], [2], [2, 3], [2, 3, 4], [0, 1, 2, 3, 4, 5], [], [0, 1, 2, 3, 4, 5, 6, 7]] (by kernel_rfl) (by kernel_rfl) (by kernel_rfl) (by kernel_rfl) ?_; simp only [List.take_succ_cons, List.take_zero, List.drop_succ_cons, List.drop_zero, List.take_nil, List.drop_nil]
  (repeat (apply R2.VD_der; (case h => (intro us w' hx hf; obtain ⟨x, rfl⟩ := hx.out; refine ⟨rfl, ?_⟩; simp [go_sem, execOp, *]; (try simp (disch := omega) only [Go.IntWalk.i64_in, Go.IntWalk.rem_in, Go.IntWalk.wrap64_in]); rfl)); (try simp only [Act.put, List.setIfInBounds_toArray, List.set_cons_succ, List.set_cons_zero])))
  (refine R2.VD_vag (fun p => .slice (p 0).1 (1) (1)) (fun p w'' => Bss w'' (p 0).1 (1) ([ch.sec])) (fun p w w' h hx => h.ext hx) (fun us w' hx hf => ⟨rfl, ?_⟩) ?_; (unfold gives; simp [go_sem, execOp]; exact ⟨fun _ => (some ⟨w'.heap.size, 0, none⟩, 0), rfl, Ext.of_alloc _ _, bss1 (h1.ext (hEX.trans hx)) _⟩))
  (refine R2.VD_vag (fun p => .slice (p 0).1 (ch.sec.length) (p 0).2) (fun p w'' => Own w'' 0 (p 0).1 (ch.sec.length) (p 0).2 (ch.sec)) (fun p w w' h hx => h.ext hx) (fun us w' hx hf => ⟨rfl, ?_⟩) ?_; (unfold gives; simp [go_sem, execOp]; exact vag_fresh (Nat.zero_le _) ((by have := ojoin_any _ 1 1 [ch.sec] _ (hf _ (List.mem_append_right _ (List.mem_singleton_self _)) rfl) (by omega) ch.sec.length (by simp [joinL]) (by omega); rwa [joinL1] at this))))
  (refine R2.VD_vag (fun p => .agg #[.bool (keyed ch.cl ch.sec 0 0).cl, .slice (p 0).1 (keyed ch.cl ch.sec 0 0).sec.length (p 0).2, .slice (p 1).1 (keyed ch.cl ch.sec 0 0).snd.length (p 1).2, .slice (p 2).1 (keyed ch.cl ch.sec 0 0).rcv.length (p 2).2, .int .i64 (keyed ch.cl ch.sec 0 0).st, .int .i64 (keyed ch.cl ch.sec 0 0).rc]) (fun p w'' => ChQ (keyed ch.cl ch.sec 0 0) p w'') (fun p w w' h hx => by first | exact h.ext hx | exact ⟨h.1.ext hx, h.2.ext hx⟩ | exact ⟨h.1.ext hx, h.2⟩ | exact ⟨h.1.ext hx, h.2.1.ext hx, h.2.2.ext hx⟩) (fun us w' hx hf => ⟨rfl, ?_⟩) ?_; (unfold gives; simp [go_sem, execOp]; exact vag_ch (keyed_any ch.cl _ _ _ ch.sec _ (Own.sl (by exact (hf _ (List.mem_append_right _ (List.mem_singleton_self _)) rfl))) (Own.le (by exact (hf _ (List.mem_append_right _ (List.mem_singleton_self _)) rfl))).1 hs)))
  (refine R2.VD_alloc _ ([.bool false, .slice none 0 0, .slice none 0 0, .slice none 0 0, .int .i64 0, .int .i64 0]) Try.zeroValue24 rfl rfl rfl ?_)
  (refine R2.VD_nil ?_; intro us w' hx hf hd; obtain ⟨x, rfl⟩ := hx.out; (try simp only [Act.put, List.setIfInBounds_toArray, List.set_cons_succ, List.set_cons_zero, wpList_none]); (try simp only [List.mem_cons, List.not_mem_nil, or_false, forall_eq_or_imp, forall_eq, List.nil_append, List.cons_append, List.mem_append, false_or, true_and, and_true] at hf); (try simp only [Nat.reduceAdd, Nat.zero_add] at hf); (try simp only [Nat.reduceAdd, Nat.zero_add]))
  obtain ⟨_, _, hq, g7, e7, hg7, hB7⟩ := hf
  rw [e7]
  clear hd e7
  haveI := hB7.blt
  have hR7 := hR.ext x
  have hRl := hR.lt
  have hE7 := hEX.ext x
  have hne : w.heap.size + 1 ≠ g7 := by omega
  go_wp2_with (first
    | ((refine wpList_store_arr (RC6) rfl _ _ rfl (g7) (0) rfl (chCells (keyed ch.cl ch.sec 0 0) (us 6)) rfl (24) _ (hB7) (rfl) (by simp) (chCells_one _ _) ?_; intro w9 hB9 hM9); have hB9c : Blk w9 g7 24 (chCells (keyed ch.cl ch.sec 0 0) (us 6)) := (by simpa [chCells] using hB9); have hR9 := Blk.turn hM9 hR7 hne; have z4 := hB9c.free 4; have z5 := hB9c.free 5; have y4 := hB9c.cell? 4 rfl; have y5 := hB9c.cell? 5 rfl; haveI := hB9c.blt; haveI := hR9.blt; clear hB9)
    | (refine wpList_load_arr (RC6) rfl _ rfl (g7) (0) rfl (chCells (keyed ch.cl ch.sec st rc) (us 6)) ((show Rd _ _ (chCells (keyed ch.cl ch.sec st rc) (us 6)) from ((hB9c.set 4 (.int .i64 st)).set 5 (.int .i64 rc)).rd)) (rfl) ?_)
    | (refine wpList_store_arr (RC6) rfl _ _ rfl (w.heap.size + 1) (0) rfl (chCells (keyed ch.cl ch.sec st rc) (us 6)) rfl (24) _ (((hR9.other hne _).other hne _)) (rfl) (by simp) (chCells_one _ _) ?_; intro w12 hB12 hM12)
    | fail)
  refine bodyPost_ret (results_arr Try.results93 (RC6) _ _ (w.heap.size + 1) (0) (chCells (keyed ch.cl ch.sec st rc) (us 6)) rfl (hB12.rd) (rfl)) rfl ?_
  have hm : Mut g7 (W.ext x) ((w9.setCell ⟨g7, 4, none⟩ (.int .i64 st)).setCell ⟨g7, 5, none⟩ (.int .i64 rc)) := (hM9.setCell 4 _).setCell 5 _
  have hE11 : Ext w _ := Below.trans hE7 (hm.below (by omega) hE7.size)
  have hE12 : Ext w w12 := Below.trans hE11 (hM12.below (by omega) hE11.size)
  have q1 := Sl.mut (Sl.mut hq.s1 hB7 (by simp) hm) ((hR9.other hne _).other hne _) (by simp) hM12
  have q2 := Sl.mut (Sl.mut hq.s2 hB7 (by simp) hm) ((hR9.other hne _).other hne _) (by simp) hM12
  have q3 := Sl.mut (Sl.mut hq.s3 hB7 (by simp) hm) ((hR9.other hne _).other hne _) (by simp) hM12
  exact ⟨_, rfl, ChR.mk (c := (keyed ch.cl ch.sec st rc)) q1 hq.k1 q2 hq.k2 q3 hq.k3, hE12⟩
end Go.Proofs.Ytkjdlbjbppbmdaa

/- The walks of layer 20: Send. -/
namespace Go.Sec
open Go.RowKit
section
variable {P : Program} {fn : Func} {p u u2 u3 : Tmp} {T : TypeId} {n : Nat}
theorem results_arr_tmp2 (h : fn.results = #[.cell p T, .tmp u, .tmp u2]) (hT : RowT P T n) (tmps : Array Value) (w : World) (g o : Nat) (cs : List Value) (hp : tmps.getD p undef = .pointer (some ⟨g, o, none⟩))
    (hR : Rd w (some ⟨g, o, none⟩) cs) (hn : cs.length = n) (v v2 : Value) (hv : tmps.getD u undef = v) (hv2 : tmps.getD u2 undef = v2) : (results fn tmps).run P w = .ok (.tuple #[.agg cs.toArray, v, v2]) w := by
  have hp' : tmps[p]?.getD undef = .pointer (some ⟨g, o, none⟩) := by simpa using hp
  subst hv hv2
  simp [results, h, hp', asAddr, loadVar_arr hT w g o cs hR hn]
theorem results_arr_tmp3 (h : fn.results = #[.cell p T, .tmp u, .tmp u2, .tmp u3]) (hT : RowT P T n) (tmps : Array Value) (w : World) (g o : Nat) (cs : List Value) (hp : tmps.getD p undef = .pointer (some ⟨g, o, none⟩))
    (hR : Rd w (some ⟨g, o, none⟩) cs) (hn : cs.length = n) (v v2 v3 : Value) (hv : tmps.getD u undef = v) (hv2 : tmps.getD u2 undef = v2) (hv3 : tmps.getD u3 undef = v3) : (results fn tmps).run P w = .ok (.tuple #[.agg cs.toArray, v, v2, v3]) w := by
  have hp' : tmps[p]?.getD undef = .pointer (some ⟨g, o, none⟩) := by simpa using hp
  subst hv hv2 hv3
  simp [results, h, hp', asAddr, loadVar_arr hT w g o cs hR hn]
end
theorem vag_bsc {P : Program} {f : FuncId} {args : Array Value} {w : World} {n : Nat} {L : List (List UInt8)} (h : Calls P f args w fun e w' => ∃ a c, e = .returned (.slice a n c) ∧ n ≤ c ∧ Bsc w' a n L ∧ Ext w w') :
    Calls P f args w fun e w' => ∃ x, e = .returned x ∧ ∃ p : Par, x = .slice (p 0).1 n (p 0).2 ∧ Ext w w' ∧ Bsc w' (p 0).1 n L :=
  h.mono fun _ _ ⟨a, c, he, hc, hS, hx⟩ => ⟨_, he, fun _ => (a, c), rfl, hx, hS⟩
end Go.Sec
namespace Go.Proofs.Ytkjdlbjbppbmdaa
open Go.RowKit Go.Sec Go.Oct Go.Sha Go.Aes Go.Chan BigFrame

/-- What Send hands back. -/
def SendP (r : Ch × List UInt8 × Int) (w : World) (e : Ending) (w' : World) : Prop := ∃ v a c, e = .returned (.tuple #[v, .slice a r.2.1.length c, .int .i64 r.2.2]) ∧ ChR w' v r.1 ∧ Sl w' a r.2.1.length r.2.1 ∧ r.2.1.length ≤ c ∧ Ext w w'
theorem SendP.err (w w' : World) (e : Int) (hx : Ext w w') : SendP (zeroCh, [], e) w (.returned (.tuple #[.agg #[.bool false, .slice none 0 0, .slice none 0 0, .slice none 0 0, .int .i64 0, .int .i64 0], .slice none 0 0, .int .i64 e])) w' :=
  ⟨_, none, 0, rfl, ChR.zero _, Sl.nil _ _, Nat.le_refl _, hx⟩

set_option maxRecDepth 100000 in
set_option maxHeartbeats 8000000 in
theorem send_any (v : Value) (ch : Ch) (kind : Int) (b : Option Addr) (m d : Nat) (l : List UInt8) (w : World) (hv : ChR w v ch) (hs : ch.sec.length ≤ 1000000) (hl : Sl w b m l) (hmd : m ≤ d) :
    Calls Try.prog 50 #[v, .int .i64 kind, .slice b m d] w (SendP (sendE ch kind l) w) := by
  have hll := hl.len
  have hval := fun W h => valid_any v ch W h hs
  have hcop := fun W h => copied_any v ch (ch.st + 1) ch.rc W h hs
  obtain ⟨a1, c1, a2, c2, a3, c3, rfl, h1, k1, h2, k2, h3, k3⟩ := id hv
  cases hV : validC ch
  · have e : sendE ch kind l = (zeroCh, [], 3) := by unfold sendE; rw [if_pos hV]
    rw [e]
    rw [hV] at hval
    clear hll e
    go_enter Try.func50, Try.ntmps50
    go_wp2_with (first | (go_at_call 51; (with_reducible refine (hval ?_ ?hq146).mono ?_); (case hq146 => (repeat' (first | with_reducible assumption | (with_reducible first | apply ChR.upE | apply ChR.upA | apply ChR.upD)))); rintro e w1 ⟨rfl, hxq⟩; obtain ⟨xq, rfl⟩ := hxq.out; clear hxq) | fail)
    refine bodyPost_ret (v := .tuple #[.agg #[.bool false, .slice none 0 0, .slice none 0 0, .slice none 0 0, .int .i64 0, .int .i64 0], .slice none 0 0, .int .i64 3]) (by simp [results, Try.results50, go_sem]) rfl ?_
    exact SendP.err _ _ _ (by repeat (first | (with_reducible first | exact Ext.refl _ | assumption | apply Ext.alloc | apply Ext.ext | apply Ext.drew | refine Ext.setCell ?_ ?_ _) | (focus (simp [go_sem]; done))))
  · rw [hV] at hval
    by_cases hk0 : kind < 0
    · have e : sendE ch kind l = (zeroCh, [], 4) := by unfold sendE; rw [if_neg (by rw [hV]; simp), if_pos (.inl hk0)]
      rw [e]
      clear hll e
      go_enter Try.func50, Try.ntmps50
      go_wp2_with (first | (go_at_call 51; (with_reducible refine (hval ?_ ?hq147).mono ?_); (case hq147 => (repeat' (first | with_reducible assumption | (with_reducible first | apply ChR.upE | apply ChR.upA | apply ChR.upD)))); rintro e w1 ⟨rfl, hxq⟩; obtain ⟨xq, rfl⟩ := hxq.out; clear hxq) | fail)
      refine bodyPost_ret (v := .tuple #[.agg #[.bool false, .slice none 0 0, .slice none 0 0, .slice none 0 0, .int .i64 0, .int .i64 0], .slice none 0 0, .int .i64 4]) (by simp [results, Try.results50, go_sem]) rfl ?_
      exact SendP.err _ _ _ (by repeat (first | (with_reducible first | exact Ext.refl _ | assumption | apply Ext.alloc | apply Ext.ext | apply Ext.drew | refine Ext.setCell ?_ ?_ _) | (focus (simp [go_sem]; done))))
    · by_cases hk1 : 255 < kind
      · have e : sendE ch kind l = (zeroCh, [], 4) := by unfold sendE; rw [if_neg (by rw [hV]; simp), if_pos (.inr hk1)]
        rw [e]
        clear hll e
        go_enter Try.func50, Try.ntmps50
        go_wp2_with (first | (go_at_call 51; (with_reducible refine (hval ?_ ?hq148).mono ?_); (case hq148 => (repeat' (first | with_reducible assumption | (with_reducible first | apply ChR.upE | apply ChR.upA | apply ChR.upD)))); rintro e w1 ⟨rfl, hxq⟩; obtain ⟨xq, rfl⟩ := hxq.out; clear hxq) | fail)
        refine bodyPost_ret (v := .tuple #[.agg #[.bool false, .slice none 0 0, .slice none 0 0, .slice none 0 0, .int .i64 0, .int .i64 0], .slice none 0 0, .int .i64 4]) (by simp [results, Try.results50, go_sem]) rfl ?_
        exact SendP.err _ _ _ (by repeat (first | (with_reducible first | exact Ext.refl _ | assumption | apply Ext.alloc | apply Ext.ext | apply Ext.drew | refine Ext.setCell ?_ ?_ _) | (focus (simp [go_sem]; done))))
      · by_cases hm : 16384 < m
        · have e : sendE ch kind l = (zeroCh, [], 2) := by unfold sendE; rw [if_neg (by rw [hV]; simp), if_neg (by omega), if_pos (by omega)]
          rw [e]
          have hI : (16384 : Int) < (m : Int) := by omega
          clear hll e
          go_enter Try.func50, Try.ntmps50
          go_wp2_with (first | (go_at_call 51; (with_reducible refine (hval ?_ ?hq149).mono ?_); (case hq149 => (repeat' (first | with_reducible assumption | (with_reducible first | apply ChR.upE | apply ChR.upA | apply ChR.upD)))); rintro e w1 ⟨rfl, hxq⟩; obtain ⟨xq, rfl⟩ := hxq.out; clear hxq) | fail)
          refine bodyPost_ret (v := .tuple #[.agg #[.bool false, .slice none 0 0, .slice none 0 0, .slice none 0 0, .int .i64 0, .int .i64 0], .slice none 0 0, .int .i64 2]) (by simp [results, Try.results50, go_sem]) rfl ?_
          exact SendP.err _ _ _ (by repeat (first | (with_reducible first | exact Ext.refl _ | assumption | apply Ext.alloc | apply Ext.ext | apply Ext.drew | refine Ext.setCell ?_ ?_ _) | (focus (simp [go_sem]; done))))
        · by_cases hst : ch.st = 1099511627776
          · have e : sendE ch kind l = (zeroCh, [], 7) := by unfold sendE; rw [if_neg (by rw [hV]; simp), if_neg (by omega), if_neg (by omega), if_pos hst]
            rw [e]
            have hI : ¬ (16384 : Int) < (m : Int) := by omega
            have hI2 : (ch.st == 1099511627776) = true := by simpa using hst
            clear hll e hst
            go_enter Try.func50, Try.ntmps50
            go_wp2_with (first | (go_at_call 51; (with_reducible refine (hval ?_ ?hq150).mono ?_); (case hq150 => (repeat' (first | with_reducible assumption | (with_reducible first | apply ChR.upE | apply ChR.upA | apply ChR.upD)))); rintro e w1 ⟨rfl, hxq⟩; obtain ⟨xq, rfl⟩ := hxq.out; clear hxq) | fail)
            refine bodyPost_ret (v := .tuple #[.agg #[.bool false, .slice none 0 0, .slice none 0 0, .slice none 0 0, .int .i64 0, .int .i64 0], .slice none 0 0, .int .i64 7]) (by simp [results, Try.results50, go_sem]) rfl ?_
            exact SendP.err _ _ _ (by repeat (first | (with_reducible first | exact Ext.refl _ | assumption | apply Ext.alloc | apply Ext.ext | apply Ext.drew | refine Ext.setCell ?_ ?_ _) | (focus (simp [go_sem]; done))))
          · have e := Lib.hid (show sendE ch kind l = (keyed ch.cl ch.sec (ch.st + 1) ch.rc, recC ch kind l, 0) by unfold sendE; rw [if_neg (by rw [hV]; simp), if_neg (by omega), if_neg (by omega), if_neg hst])
            have hI : ¬ (16384 : Int) < (m : Int) := by omega
            have hI2 : (ch.st == 1099511627776) = false := by simpa using hst
            obtain ⟨⟨g1, g2, g3, g4, g5⟩, hkey⟩ := valid_keyed hV
            have h32 : ch.snd.length = 32 := by rw [hkey]; exact keyed_snd _ _ _ _
            have hrl := Lib.hid (show (recC ch kind l).length = m + 19 by rw [recC_length h32 _ _ (by omega), hll])
            rw [e.out]
            have hb8 : IntKind.u8.wrap kind = n8 (b8 kind) := wrap_b8 _
            have hw2 : IntKind.u64.wrap ((m : Int) + 16400 - 16384) = n64 (UInt64.ofNat (m + 16)) := by
              rw [n64_int _ (by omega) (by omega), show ((m : Int) + 16400 - 16384).toNat = m + 16 by omega]
            have hput := fun W => oput_any (UInt64.ofNat (m + 16)) 2 rfl (show (2 : Int) = ((2 : Nat) : Int) from rfl) W (by omega)
            have hhd := Lib.hid (show headC kind l.length = [b8 kind] ++ putL 2 (UInt64.ofNat (m + 16)) by rw [hll]; rfl)
            have hpl := putL_length 2 (UInt64.ofNat (m + 16))
            obtain ⟨head, hhead⟩ : ∃ h, Hid (h = headC kind l.length) := ⟨_, Lib.hid rfl⟩
            have hhl : head.length = 3 := by rw [hhead.out]; exact headC_length _ _
            obtain ⟨sd, hsd⟩ : ∃ s, Hid (s = (sealE ch.snd [num8 ch.st, head] l).1) := ⟨_, Lib.hid rfl⟩
            have hck : checkA ch.snd [num8 ch.st, head] = 0 := by rw [hhead.out]; exact ad_ok h32 _ _ _
            have hse : sealE ch.snd [num8 ch.st, head] l = (sd, 0) := by
              rw [hsd.out, sealE_ok hck (by omega)]
            have hsdl : sd.length = m + 16 := by
              rw [hsd.out, sealE_ok hck (by omega)]
              simp only [List.length_append, s2v_length, stream_length, hll]; omega
            have hrc := Lib.hid (show recC ch kind l = head ++ sd by unfold recC; rw [hsd.out, hhead.out])
            have hseal := fun bA cA W h1 h2 h3 => seal_any a2 bA b ch.snd.length c2 2 cA m d ch.snd [num8 ch.st, head] l W h1 k2 h2 (by omega) h3 hmd
            simp only [hse] at hseal
            rw [hsdl] at hseal
            generalize putL 2 (UInt64.ofNat (m + 16)) = pp at *
            generalize b8 kind = kb at *
            generalize UInt64.ofNat (m + 16) = q64 at *
            rw [← hhead.out] at hhd
            clear hse hck hsd h32 hkey hll e hst g1
            show Calls _ _ _ _ (fun e w' => ∃ v a c, e = .returned (.tuple #[v, .slice a (recC ch kind l).length c, .int .i64 0]) ∧ ChR w' v (keyed ch.cl ch.sec (ch.st + 1) ch.rc) ∧ Sl w' a (recC ch kind l).length (recC ch kind l) ∧ (recC ch kind l).length ≤ c ∧ Ext w w')
            rw [hrl.out]
            go_enter Try.func50, Try.ntmps50
            go_wp2_with (first | (go_at_call 51; (with_reducible refine (hval ?_ ?hq151).mono ?_); (case hq151 => (repeat' (first | with_reducible assumption | (with_reducible first | apply ChR.upE | apply ChR.upA | apply ChR.upD)))); rintro e w1 ⟨rfl, hxq⟩; obtain ⟨xq, rfl⟩ := hxq.out; clear hxq) | fail)
            obtain ⟨W, hW⟩ : ∃ W, W = ((w.alloc (.cells #[.bool ch.cl, .slice a1 ch.sec.length c1, .slice a2 ch.snd.length c2, .slice a3 ch.rcv.length c3, .int .i64 ch.st, .int .i64 ch.rc] 24)).alloc (.cells #[.bool false, .slice none 0 0, .slice none 0 0, .slice none 0 0, .int .i64 0, .int .i64 0] 24)).ext xq := ⟨_, rfl⟩
            rw [← hW]
            have hEX : Ext w W := by rw [hW]; exact (by repeat (first | (with_reducible first | exact Ext.refl _ | assumption | apply Ext.alloc | apply Ext.ext | apply Ext.drew | refine Ext.setCell ?_ ?_ _) | (focus (simp [go_sem]; done))))
            have hB0 : Blk W w.heap.size 24 [.bool ch.cl, .slice a1 ch.sec.length c1, .slice a2 ch.snd.length c2, .slice a3 ch.rcv.length c3, .int .i64 ch.st, .int .i64 ch.rc] := by rw [hW]; exact ((Blk.new w #[.bool ch.cl, .slice a1 ch.sec.length c1, .slice a2 ch.snd.length c2, .slice a3 ch.rcv.length c3, .int .i64 ch.st, .int .i64 ch.rc] 24).alloc _).ext xq
            have hR : Blk W (w.heap.size + 1) 24 [.bool false, .slice none 0 0, .slice none 0 0, .slice none 0 0, .int .i64 0, .int .i64 0] := by rw [hW]; exact (Blk.newAt _ #[.bool false, .slice none 0 0, .slice none 0 0, .slice none 0 0, .int .i64 0, .int .i64 0] 24 (w.heap.size + 1) (by simp)).ext xq
            clear hW
            have hx1 : Ext W (W.alloc (.cells #[.int .u8 (n8 kb)] 5)) := Ext.of_alloc _ _
            go_wp2_with fail; (with_reducible refine (hput _).mono ?_); rintro e w2 ⟨p2, q2, rfl, hO2, hx2⟩
            have hB3 := bss2 (c1 := 1) (c2 := q2) ((sl_new1 W kb 5).ext hx2) hO2.sl 22
            go_wp2_with fail; (with_reducible refine (ojoin_any _ _ _ _ _ hB3 (by omega) 3 (by simp [joinL2, hpl]) (by omega)).mono ?_); rintro e w3 ⟨p3, q3, rfl, hO3, hx3⟩
            rw [joinL2, ← hhd.out] at hO3
            have hle3 := hO3.le
            have hE3 : Ext W w3 := (Ext.alloc (hx1.trans hx2) _).trans hx3
            have hB0 := hB0.extB hE3
            have hR := hR.extB hE3
            have hSh := hO3.sl
            have hl3 := hl.ext (hEX.trans hE3)
            have h23 := h2.ext (hEX.trans hE3)
            have hv3 := hv.ext (hEX.trans hE3)
            clear hO3 hB3 hO2 hput hx3 hx2 hx1
            have f2 := hB0.cell? 2 rfl
            have f4 := hB0.cell? 4 rfl
            have f5 := hB0.cell? 5 rfl
            haveI := hB0.blt
            haveI := hR.blt
            go_wp2
            refine wp_region_vague 13 [[], [0], [], [2], [], [2, 3, 4], [], [0, 1, 2, 3, 4, 5, 6], [0, 1, 2, 3, 4, 5, 6, 7], [0, 1, 2, 3, 4, 5, 6, 7, 8], [0, 1, 2, 3, 4, 5, 6, 7, 8], [0, 1, 2, 3, 4, 5, 6, 7, 8, 9], [0, 1, 2, 3, 4, 5, 6, 7, 8, 9, 10, 11]] (by kernel_rfl) (by kernel_rfl) (by kernel_rfl) (by kernel_rfl) ?_; simp only [List.take_succ_cons, List.take_zero, List.drop_succ_cons, List.drop_zero, List.take_nil, List.drop_nil]
            (repeat (apply VD_der; (case h => (intro us w' hx hf; obtain ⟨x, rfl⟩ := hx.out; refine ⟨rfl, ?_⟩; simp [go_sem, execOp, *]; (try simp (disch := omega) only [Go.IntWalk.i64_in, Go.IntWalk.rem_in, Go.IntWalk.wrap64_in]); rfl)); (try simp only [Act.put, List.setIfInBounds_toArray, List.set_cons_succ, List.set_cons_zero])))
            (refine VD_vag (fun p => .slice (p 0).1 2 (p 0).2) (fun p w'' => Bsc w'' (p 0).1 2 [num8 ch.st, head]) (fun p w w' h hx => by first | exact h.ext hx | exact ⟨h.1.ext hx, h.2.ext hx⟩ | exact ⟨h.1.ext hx, h.2⟩ | exact ⟨h.1.ext hx, h.2.1.ext hx, h.2.2.ext hx⟩) (fun us w' hx hf => ⟨rfl, ?_⟩) ?_; (unfold gives; simp [go_sem, execOp]; exact vag_bsc (data_any ch.st p3 3 q3 head w' (hSh.ext hx) hle3.1 g2 (by omega))))
            (repeat (apply VD_der; (case h => (intro us w' hx hf; obtain ⟨x, rfl⟩ := hx.out; refine ⟨rfl, ?_⟩; simp [go_sem, execOp, *]; (try simp (disch := omega) only [Go.IntWalk.i64_in, Go.IntWalk.rem_in, Go.IntWalk.wrap64_in]); rfl)); (try simp only [Act.put, List.setIfInBounds_toArray, List.set_cons_succ, List.set_cons_zero])))
            (refine VD_vag (fun p => .tuple #[.slice (p 0).1 (m + 16) (p 0).2, .int .i64 0]) (fun p w'' => Sl w'' (p 0).1 (m + 16) (sd) ∧ (m + 16) ≤ (p 0).2) (fun p w w' h hx => ⟨h.1.ext hx, h.2⟩) (fun us w' hx hf => ⟨rfl, ?_⟩) ?_; (unfold gives; simp [go_sem, execOp]; exact vag_read (hseal _ _ _ (h23.ext hx) (hf _ (List.mem_append_right _ (List.mem_singleton_self _)) rfl) (hl3.ext hx))))
            (repeat (apply VD_der; (case h => (intro us w' hx hf; obtain ⟨x, rfl⟩ := hx.out; refine ⟨rfl, ?_⟩; simp [go_sem, execOp, *]; (try simp (disch := omega) only [Go.IntWalk.i64_in, Go.IntWalk.rem_in, Go.IntWalk.wrap64_in]); rfl)); (try simp only [Act.put, List.setIfInBounds_toArray, List.set_cons_succ, List.set_cons_zero])))
            (refine VD_nil ?_; intro us w' hx hf; obtain ⟨x, rfl⟩ := hx.out; (try simp only [Act.put, List.setIfInBounds_toArray, List.set_cons_succ, List.set_cons_zero, wpList_none]); (try simp only [List.mem_cons, List.not_mem_nil, or_false, forall_eq_or_imp, forall_eq, List.nil_append, List.cons_append, List.mem_append, false_or, true_and, and_true] at hf); (try simp only [Nat.reduceAdd, Nat.zero_add] at hf); (try simp only [Nat.reduceAdd, Nat.zero_add]))
            obtain ⟨_, hSd, hcd⟩ := hf
            have hEx := hEX.trans hE3
            go_wp2_with (first
              | (refine wpList_load_arr (RC6) rfl _ rfl (w.heap.size) (0) rfl ([.bool ch.cl, .slice a1 ch.sec.length c1, .slice a2 ch.snd.length c2, .slice a3 ch.rcv.length c3, .int .i64 ch.st, .int .i64 ch.rc]) (((hB0.ext x).rd)) (rfl) ?_)
              | fail)
            (with_reducible refine (hcop _ (hv3.ext (Ext.of_ext _ x))).mono ?_)
            rintro e w5 ⟨v, rfl, hvr, hx5⟩
            obtain ⟨b1, d1, b2, d2, b3, d3, rfl, g1, q1, g2, q2, g3, q3⟩ := hvr
            have hE5 := (Ext.of_ext w3 x).trans hx5
            go_wp2_with fail; (with_reducible refine (ojoin_any _ _ _ _ _ (bss2 (hSh.ext hE5) (hSd.ext hx5) _) (by omega) (m + 19) (by rw [joinL2, List.length_append, hhl, hsdl]; omega) (by omega)).mono ?_); rintro e w6 ⟨p6, q6, rfl, hO6, hx6⟩
            rw [joinL2, ← hrc.out] at hO6
            have hE6 : Ext w5 w6 := (Ext.of_alloc _ _).trans hx6
            have hR6 := (hR.extB hE5).extB hE6
            haveI := hR6.blt
            have hle6 := hO6.le
            go_wp2_with (first
              | (refine wpList_store_arr (RC6) rfl _ _ rfl (w.heap.size + 1) (0) rfl ([.bool (keyed ch.cl ch.sec (ch.st + 1) ch.rc).cl, .slice b1 (keyed ch.cl ch.sec (ch.st + 1) ch.rc).sec.length d1, .slice b2 (keyed ch.cl ch.sec (ch.st + 1) ch.rc).snd.length d2, .slice b3 (keyed ch.cl ch.sec (ch.st + 1) ch.rc).rcv.length d3, .int .i64 (keyed ch.cl ch.sec (ch.st + 1) ch.rc).st, .int .i64 (keyed ch.cl ch.sec (ch.st + 1) ch.rc).rc]) rfl (24) _ (hR6) (rfl) (by simp) (by first | exact one_u8 _ | (simp; done) | (simp; (repeat' (first | rfl | constructor)))) ?_; intro w9 hB9 hM9)
              | fail)
            refine bodyPost_ret (results_arr_tmp2 Try.results50 RC6 _ _ (w.heap.size + 1) 0 [.bool (keyed ch.cl ch.sec (ch.st + 1) ch.rc).cl, .slice b1 (keyed ch.cl ch.sec (ch.st + 1) ch.rc).sec.length d1, .slice b2 (keyed ch.cl ch.sec (ch.st + 1) ch.rc).snd.length d2, .slice b3 (keyed ch.cl ch.sec (ch.st + 1) ch.rc).rcv.length d3, .int .i64 (keyed ch.cl ch.sec (ch.st + 1) ch.rc).st, .int .i64 (keyed ch.cl ch.sec (ch.st + 1) ch.rc).rc] rfl hB9.rd rfl _ _ rfl rfl) rfl ?_
            have hE7 := (hEx.trans hE5).trans hE6
            have hE9 : Ext w w9 := Below.trans hE7 (hM9.below (by omega) hE7.size)
            exact ⟨_, _, _, rfl, ChR.mk (c := (keyed ch.cl ch.sec (ch.st + 1) ch.rc)) (Sl.mut (g1.ext hE6) hR6 (by simp) hM9) q1 (Sl.mut (g2.ext hE6) hR6 (by simp) hM9) q2 (Sl.mut (g3.ext hE6) hR6 (by simp) hM9) q3, Sl.mut hO6.sl hR6 (by simp) hM9, hle6.1, hE9⟩
end Go.Proofs.Ytkjdlbjbppbmdaa

/- The walks of layer 20: Receive. -/
namespace Go.Proofs.Ytkjdlbjbppbmdaa
open Go.RowKit Go.Sec Go.Oct Go.Sha Go.Aes Go.Chan BigFrame

theorem nameW {P : Program} {c : Code} {Q : Exit → Act → World → Prop} {a : Act} {w : World} (h : ∀ W, W = w → c.wp P Q a W) : c.wp P Q a w := h w rfl
/-- What Receive hands back. -/
def RecvP (r : Ch × Int × List UInt8 × Int) (w : World) (e : Ending) (w' : World) : Prop := ∃ v a c, e = .returned (.tuple #[v, .int .i64 r.2.1, .slice a r.2.2.1.length c, .int .i64 r.2.2.2]) ∧ ChR w' v r.1 ∧ Sl w' a r.2.2.1.length r.2.2.1 ∧ r.2.2.1.length ≤ c ∧ Ext w w'
theorem RecvP.err (w w' : World) (e : Int) (hx : Ext w w') : RecvP (zeroCh, 0, [], e) w (.returned (.tuple #[.agg #[.bool false, .slice none 0 0, .slice none 0 0, .slice none 0 0, .int .i64 0, .int .i64 0], .int .i64 0, .slice none 0 0, .int .i64 e])) w' :=
  ⟨_, none, 0, rfl, ChR.zero _, Sl.nil _ _, Nat.le_refl _, hx⟩

set_option maxRecDepth 100000 in
set_option maxHeartbeats 8000000 in
theorem recv_any (v : Value) (ch : Ch) (b : Option Addr) (m d : Nat) (r : List UInt8) (w : World) (hv : ChR w v ch) (hs : ch.sec.length ≤ 1000000) (hl : Sl w b m r) (hmd : m ≤ d) (hm : m ≤ 1000000) :
    Calls Try.prog 22 #[v, .slice b m d] w (RecvP (recvE ch r) w) := by
  have hll := hl.len
  have hval := fun W h => valid_any v ch W h hs
  obtain ⟨a1, c1, a2, c2, a3, c3, rfl, h1, k1, h2, k2, h3, k3⟩ := id hv
  cases hV : validC ch
  · have e : recvE ch r = (zeroCh, 0, [], 3) := by unfold recvE; rw [if_pos hV]
    rw [e]
    rw [hV] at hval
    clear hll e
    go_enter Try.func22, Try.ntmps22
    go_wp2_with (first | (go_at_call 51; (with_reducible refine (hval ?_ ?hq167).mono ?_); (case hq167 => (repeat' (first | with_reducible assumption | (with_reducible first | apply ChR.upE | apply ChR.upA | apply ChR.upD)))); rintro e w1 ⟨rfl, hxq⟩; obtain ⟨xq, rfl⟩ := hxq.out; clear hxq) | fail)
    refine bodyPost_ret (v := .tuple #[.agg #[.bool false, .slice none 0 0, .slice none 0 0, .slice none 0 0, .int .i64 0, .int .i64 0], .int .i64 0, .slice none 0 0, .int .i64 3]) (by simp [results, Try.results22, go_sem]) rfl ?_
    exact RecvP.err _ _ _ (by repeat (first | (with_reducible first | exact Ext.refl _ | assumption | apply Ext.alloc | apply Ext.ext | apply Ext.drew | refine Ext.setCell ?_ ?_ _) | (focus (simp [go_sem]; done))))
  · rw [hV] at hval
    by_cases h3m : m < 3
    · have e : recvE ch r = (zeroCh, 0, [], 1) := by unfold recvE; rw [if_neg (by rw [hV]; simp), if_pos (by omega)]
      rw [e]
      have hcut := fun w => cut_no b m d 3 w (.inr (by omega))
      clear hll e
      go_enter Try.func22, Try.ntmps22
      go_wp2_with (first | (go_at_call 51; (with_reducible refine (hval ?_ ?hq168).mono ?_); (case hq168 => (repeat' (first | with_reducible assumption | (with_reducible first | apply ChR.upE | apply ChR.upA | apply ChR.upD)))); rintro e w1 ⟨rfl, hxq⟩; obtain ⟨xq, rfl⟩ := hxq.out; clear hxq) | (go_at_call 89; refine (hcut _).mono ?_; rintro e w1 ⟨rfl, hxq⟩; obtain ⟨xq, rfl⟩ := hxq.out; clear hxq) | fail)
      refine bodyPost_ret (v := .tuple #[.agg #[.bool false, .slice none 0 0, .slice none 0 0, .slice none 0 0, .int .i64 0, .int .i64 0], .int .i64 0, .slice none 0 0, .int .i64 1]) (by simp [results, Try.results22, go_sem]) rfl ?_
      exact RecvP.err _ _ _ (by repeat (first | (with_reducible first | exact Ext.refl _ | assumption | apply Ext.alloc | apply Ext.ext | apply Ext.drew | refine Ext.setCell ?_ ?_ _) | (focus (simp [go_sem]; done))))
    · have hcut := fun w h => cut_ok b m d r 3 w h hm (by omega) hmd
      simp only [Int.cast_ofNat_Int] at hcut
      obtain ⟨s, hsm⟩ : ∃ s, m = 3 + s := ⟨m - 3, by omega⟩
      obtain ⟨q, hq⟩ : ∃ q, q = lenC r := ⟨_, rfl⟩
      have hgl : n64 (getL ((r.take 3).drop 1)) = (q : Int) := by
        rw [hq]; unfold lenC n64; rw [List.drop_take]
      have hget := fun a c W hS hc => oget_any a 2 c ((r.take 3).drop 1) W hS hc (by omega)
      rw [hgl] at hget
      have hq6 : q < 65536 := by
        rw [hq]; unfold lenC
        have := getN_lt ((r.drop 1).take 2)
        have hl2 : ((r.drop 1).take 2).length = 2 := by simp; omega
        rw [getL_nat _ (by omega)]
        rw [hl2] at this
        exact this
      have hwr : IntKind.u64.wrap (s : Int) = (s : Int) := by rw [IntKind.wrap_u64]; omega
      rw [hsm] at hcut
      rw [show 3 + s - 3 = s by omega] at hcut
      by_cases hsq : s < q
      · have e : recvE ch r = (zeroCh, 0, [], 1) := by unfold recvE; rw [if_neg (by rw [hV]; simp), if_neg (by omega), if_pos (by omega)]
        rw [e]
        have hI : (s : Int) < (q : Int) := by omega
        clear hll e hgl hq
        subst hsm
        go_enter Try.func22, Try.ntmps22
        go_wp2_with (first | (go_at_call 51; (with_reducible refine (hval ?_ ?hq169).mono ?_); (case hq169 => (repeat' (first | with_reducible assumption | (with_reducible first | apply ChR.upE | apply ChR.upA | apply ChR.upD)))); rintro e w1 ⟨rfl, hxq⟩; obtain ⟨xq, rfl⟩ := hxq.out; clear hxq) | fail)
        refine (hcut _ (by (repeat' (first | with_reducible assumption | (with_reducible exact zeros16 _) | (with_reducible exact sl_new1 _ _ _) | (with_reducible first | apply Sl.upE | apply Sl.upA | apply Sl.upD))))).mono ?_
        rintro e _ ⟨p1, q1, p2, q2, rfl, hO1, hO2, hx⟩
        obtain ⟨xc, rfl⟩ := hx.out
        have hl1 := hO1.le
        have hl2 := hO2.le
        have hS1 := hO1.sl
        have hS2 := hO2.sl
        obtain ⟨pb, po, rfl, hpb, hp0⟩ := hS1.atD 0 (by omega)
        have hD := sl_from hS1 hl1.1 (i := 1) (by omega)
        have hq1 : (1 : Int) ≤ (q1 : Int) := by omega
        clear hO1 hO2 hx
        go_wp2_with (first | (go_at_call 90; (with_reducible refine (hget ?_ ?_ ?_ ?hq170 ?hq171).mono ?_); (case hq170 => (repeat' (first | with_reducible assumption | (with_reducible exact zeros16 _) | (with_reducible exact sl_new1 _ _ _) | (with_reducible first | apply Sl.upE | apply Sl.upA | apply Sl.upD)))); (case hq171 => omega); rintro e w1 ⟨rfl, hxq⟩; obtain ⟨xq, rfl⟩ := hxq.out; clear hxq) | fail)
        refine bodyPost_ret (v := .tuple #[.agg #[.bool false, .slice none 0 0, .slice none 0 0, .slice none 0 0, .int .i64 0, .int .i64 0], .int .i64 0, .slice none 0 0, .int .i64 1]) (by simp [results, Try.results22, go_sem]) rfl ?_
        exact RecvP.err _ _ _ (by repeat (first | (with_reducible first | exact Ext.refl _ | assumption | apply Ext.alloc | apply Ext.ext | apply Ext.drew | refine Ext.setCell ?_ ?_ _) | (focus (simp [go_sem]; done))))
      · have hI : ¬ (s : Int) < (q : Int) := by omega
        by_cases hqs : q < s
        · have e : recvE ch r = (zeroCh, 0, [], 2) := by unfold recvE; rw [if_neg (by rw [hV]; simp), if_neg (by omega), if_neg (by omega), if_pos (by omega)]
          rw [e]
          have hI2 : (q : Int) < (s : Int) := by omega
          clear hll e hgl hq
          subst hsm
          go_enter Try.func22, Try.ntmps22
          go_wp2_with (first | (go_at_call 51; (with_reducible refine (hval ?_ ?hq172).mono ?_); (case hq172 => (repeat' (first | with_reducible assumption | (with_reducible first | apply ChR.upE | apply ChR.upA | apply ChR.upD)))); rintro e w1 ⟨rfl, hxq⟩; obtain ⟨xq, rfl⟩ := hxq.out; clear hxq) | fail)
          refine (hcut _ (by (repeat' (first | with_reducible assumption | (with_reducible exact zeros16 _) | (with_reducible exact sl_new1 _ _ _) | (with_reducible first | apply Sl.upE | apply Sl.upA | apply Sl.upD))))).mono ?_
          rintro e _ ⟨p1, q1, p2, q2, rfl, hO1, hO2, hx⟩
          obtain ⟨xc, rfl⟩ := hx.out
          have hl1 := hO1.le
          have hl2 := hO2.le
          have hS1 := hO1.sl
          have hS2 := hO2.sl
          obtain ⟨pb, po, rfl, hpb, hp0⟩ := hS1.atD 0 (by omega)
          have hD := sl_from hS1 hl1.1 (i := 1) (by omega)
          have hq1 : (1 : Int) ≤ (q1 : Int) := by omega
          clear hO1 hO2 hx
          go_wp2_with (first | (go_at_call 90; (with_reducible refine (hget ?_ ?_ ?_ ?hq173 ?hq174).mono ?_); (case hq173 => (repeat' (first | with_reducible assumption | (with_reducible exact zeros16 _) | (with_reducible exact sl_new1 _ _ _) | (with_reducible first | apply Sl.upE | apply Sl.upA | apply Sl.upD)))); (case hq174 => omega); rintro e w1 ⟨rfl, hxq⟩; obtain ⟨xq, rfl⟩ := hxq.out; clear hxq) | fail)
          refine bodyPost_ret (v := .tuple #[.agg #[.bool false, .slice none 0 0, .slice none 0 0, .slice none 0 0, .int .i64 0, .int .i64 0], .int .i64 0, .slice none 0 0, .int .i64 2]) (by simp [results, Try.results22, go_sem]) rfl ?_
          exact RecvP.err _ _ _ (by repeat (first | (with_reducible first | exact Ext.refl _ | assumption | apply Ext.alloc | apply Ext.ext | apply Ext.drew | refine Ext.setCell ?_ ?_ _) | (focus (simp [go_sem]; done))))

        · have hI2 : ¬ (q : Int) < (s : Int) := by omega
          by_cases hbig : 16400 < s
          · have e : recvE ch r = (zeroCh, 0, [], 2) := by unfold recvE; rw [if_neg (by rw [hV]; simp), if_neg (by omega), if_neg (by omega), if_pos (by omega)]
            rw [e]
            have hI3 : (16400 : Int) < (s : Int) := by omega
            clear hll e hgl hq
            subst hsm
            go_enter Try.func22, Try.ntmps22
            go_wp2_with (first | (go_at_call 51; (with_reducible refine (hval ?_ ?hq175).mono ?_); (case hq175 => (repeat' (first | with_reducible assumption | (with_reducible first | apply ChR.upE | apply ChR.upA | apply ChR.upD)))); rintro e w1 ⟨rfl, hxq⟩; obtain ⟨xq, rfl⟩ := hxq.out; clear hxq) | fail)
            refine (hcut _ (by (repeat' (first | with_reducible assumption | (with_reducible exact zeros16 _) | (with_reducible exact sl_new1 _ _ _) | (with_reducible first | apply Sl.upE | apply Sl.upA | apply Sl.upD))))).mono ?_
            rintro e _ ⟨p1, q1, p2, q2, rfl, hO1, hO2, hx⟩
            obtain ⟨xc, rfl⟩ := hx.out
            have hl1 := hO1.le
            have hl2 := hO2.le
            have hS1 := hO1.sl
            have hS2 := hO2.sl
            obtain ⟨pb, po, rfl, hpb, hp0⟩ := hS1.atD 0 (by omega)
            have hD := sl_from hS1 hl1.1 (i := 1) (by omega)
            have hq1 : (1 : Int) ≤ (q1 : Int) := by omega
            clear hO1 hO2 hx
            go_wp2_with (first | (go_at_call 90; (with_reducible refine (hget ?_ ?_ ?_ ?hq176 ?hq177).mono ?_); (case hq176 => (repeat' (first | with_reducible assumption | (with_reducible exact zeros16 _) | (with_reducible exact sl_new1 _ _ _) | (with_reducible first | apply Sl.upE | apply Sl.upA | apply Sl.upD)))); (case hq177 => omega); rintro e w1 ⟨rfl, hxq⟩; obtain ⟨xq, rfl⟩ := hxq.out; clear hxq) | fail)
            refine bodyPost_ret (v := .tuple #[.agg #[.bool false, .slice none 0 0, .slice none 0 0, .slice none 0 0, .int .i64 0, .int .i64 0], .int .i64 0, .slice none 0 0, .int .i64 2]) (by simp [results, Try.results22, go_sem]) rfl ?_
            exact RecvP.err _ _ _ (by repeat (first | (with_reducible first | exact Ext.refl _ | assumption | apply Ext.alloc | apply Ext.ext | apply Ext.drew | refine Ext.setCell ?_ ?_ _) | (focus (simp [go_sem]; done))))

          · have hI3 : ¬ (16400 : Int) < (s : Int) := by omega
            by_cases hrc : ch.rc = 1099511627776
            · have e : recvE ch r = (zeroCh, 0, [], 7) := by unfold recvE; rw [if_neg (by rw [hV]; simp), if_neg (by omega), if_neg (by omega), if_neg (by omega), if_pos hrc]
              rw [e]
              have hI4 : (ch.rc == 1099511627776) = true := by simpa using hrc
              clear hll e hgl hq hrc
              subst hsm
              go_enter Try.func22, Try.ntmps22
              go_wp2_with (first | (go_at_call 51; (with_reducible refine (hval ?_ ?hq178).mono ?_); (case hq178 => (repeat' (first | with_reducible assumption | (with_reducible first | apply ChR.upE | apply ChR.upA | apply ChR.upD)))); rintro e w1 ⟨rfl, hxq⟩; obtain ⟨xq, rfl⟩ := hxq.out; clear hxq) | fail)
              refine (hcut _ (by (repeat' (first | with_reducible assumption | (with_reducible exact zeros16 _) | (with_reducible exact sl_new1 _ _ _) | (with_reducible first | apply Sl.upE | apply Sl.upA | apply Sl.upD))))).mono ?_
              rintro e _ ⟨p1, q1, p2, q2, rfl, hO1, hO2, hx⟩
              obtain ⟨xc, rfl⟩ := hx.out
              have hl1 := hO1.le
              have hl2 := hO2.le
              have hS1 := hO1.sl
              have hS2 := hO2.sl
              obtain ⟨pb, po, rfl, hpb, hp0⟩ := hS1.atD 0 (by omega)
              have hD := sl_from hS1 hl1.1 (i := 1) (by omega)
              have hq1 : (1 : Int) ≤ (q1 : Int) := by omega
              clear hO1 hO2 hx
              go_wp2_with (first | (go_at_call 90; (with_reducible refine (hget ?_ ?_ ?_ ?hq179 ?hq180).mono ?_); (case hq179 => (repeat' (first | with_reducible assumption | (with_reducible exact zeros16 _) | (with_reducible exact sl_new1 _ _ _) | (with_reducible first | apply Sl.upE | apply Sl.upA | apply Sl.upD)))); (case hq180 => omega); rintro e w1 ⟨rfl, hxq⟩; obtain ⟨xq, rfl⟩ := hxq.out; clear hxq) | fail)
              refine bodyPost_ret (v := .tuple #[.agg #[.bool false, .slice none 0 0, .slice none 0 0, .slice none 0 0, .int .i64 0, .int .i64 0], .int .i64 0, .slice none 0 0, .int .i64 7]) (by simp [results, Try.results22, go_sem]) rfl ?_
              exact RecvP.err _ _ _ (by repeat (first | (with_reducible first | exact Ext.refl _ | assumption | apply Ext.alloc | apply Ext.ext | apply Ext.drew | refine Ext.setCell ?_ ?_ _) | (focus (simp [go_sem]; done))))

            · have hI4 : (ch.rc == 1099511627776) = false := by simpa using hrc
              obtain ⟨⟨g1, g2, g3, g4, g5⟩, hkey⟩ := valid_keyed hV
              have hopen := fun bA cA cB dB W h1 h2 h3 h4 => open_any a3 bA cB ch.rcv.length c3 2 cA s dB ch.rcv [num8 ch.rc, r.take 3] (r.drop 3) W h1 k3 h2 (by omega) h3 h4
              have hin : inC ch r = openE ch.rcv [num8 ch.rc, r.take 3] (r.drop 3) := rfl
              rw [← hin] at hopen
              have hE0 := Lib.hid (show recvE ch r = if (inC ch r).2 ≠ 0 then (zeroCh, 0, [], 6) else (keyed ch.cl ch.sec ch.st (ch.rc + 1), n8 (r.getD 0 0), (inC ch r).1, 0) by unfold recvE; rw [if_neg (by rw [hV]; simp), if_neg (by omega), if_neg (by omega), if_neg (by omega), if_neg hrc])
              have hr0 : r.getD 0 0 = (r.take 3).getD 0 0 := by
                rw [List.getD_eq_getElem?_getD, List.getD_eq_getElem?_getD, List.getElem?_take, if_pos (by omega)]
              rw [hE0.out]
              rw [hr0]
              have hth : (r.take 3).length = 3 := by simp; omega
              generalize (inC ch r).1 = pl at *
              generalize (inC ch r).2 = er at *
              clear hE0 hr0 hin hkey g1 hgl hq hll hrc
              generalize r.drop 3 = rb at *
              generalize r.take 3 = rh at *
              subst hsm
              have hcop := fun W h => copied_any (.agg #[.bool ch.cl, .slice a1 ch.sec.length c1, .slice a2 ch.snd.length c2, .slice a3 ch.rcv.length c3, .int .i64 ch.st, .int .i64 ch.rc]) ch ch.st (ch.rc + 1) W h hs
              by_cases her : er = 0
              · subst her
                rw [if_neg (by simp)]
                go_enter Try.func22, Try.ntmps22
                go_wp2_with (first | (go_at_call 51; (with_reducible refine (hval ?_ ?hq181).mono ?_); (case hq181 => (repeat' (first | with_reducible assumption | (with_reducible first | apply ChR.upE | apply ChR.upA | apply ChR.upD)))); rintro e w1 ⟨rfl, hxq⟩; obtain ⟨xq, rfl⟩ := hxq.out; clear hxq) | fail)
                refine (hcut _ (by (repeat' (first | with_reducible assumption | (with_reducible exact zeros16 _) | (with_reducible exact sl_new1 _ _ _) | (with_reducible first | apply Sl.upE | apply Sl.upA | apply Sl.upD))))).mono ?_
                rintro e _ ⟨p1, q1, p2, q2, rfl, hO1, hO2, hx⟩
                obtain ⟨xc, rfl⟩ := hx.out
                have hl1 := hO1.le
                have hl2 := hO2.le
                have hS1 := hO1.sl
                have hS2 := hO2.sl
                obtain ⟨pb, po, rfl, hpb, hp0⟩ := hS1.atD 0 (by omega)
                have hD := sl_from hS1 hl1.1 (i := 1) (by omega)
                have hq1 : (1 : Int) ≤ (q1 : Int) := by omega
                clear hO1 hO2 hx
                go_wp2_with (first | (go_at_call 90; (with_reducible refine (hget ?_ ?_ ?_ ?hq182 ?hq183).mono ?_); (case hq182 => (repeat' (first | with_reducible assumption | (with_reducible exact zeros16 _) | (with_reducible exact sl_new1 _ _ _) | (with_reducible first | apply Sl.upE | apply Sl.upA | apply Sl.upD)))); (case hq183 => omega); rintro e w1 ⟨rfl, hxq⟩; obtain ⟨xq, rfl⟩ := hxq.out; clear hxq) | fail)
                refine nameW ?_
                intro W hW
                have hEX : Ext w W := by rw [hW]; exact (by repeat (first | (with_reducible first | exact Ext.refl _ | assumption | apply Ext.alloc | apply Ext.ext | apply Ext.drew | refine Ext.setCell ?_ ?_ _) | (focus (simp [go_sem]; done))))
                have hB0 : Blk W w.heap.size 24 [.bool ch.cl, .slice a1 ch.sec.length c1, .slice a2 ch.snd.length c2, .slice a3 ch.rcv.length c3, .int .i64 ch.st, .int .i64 ch.rc] := by rw [hW]; exact (by repeat (first | assumption | (refine Blk.newAt _ _ _ _ ?_; first | rfl | (simp only [World.size_alloc]; done)) | apply Blk.ext | apply Blk.alloc | (refine Blk.other ?_ ?_ _; rotate_left; (simp <;> omega))))
                have hR : Blk W (w.heap.size + 1) 24 [.bool false, .slice none 0 0, .slice none 0 0, .slice none 0 0, .int .i64 0, .int .i64 0] := by rw [hW]; exact (by repeat (first | assumption | (refine Blk.newAt _ _ _ _ ?_; first | rfl | (simp only [World.size_alloc]; done)) | apply Blk.ext | apply Blk.alloc | (refine Blk.other ?_ ?_ _; rotate_left; (simp <;> omega))))
                have hH : Sl W (some ⟨pb, po, none⟩) 3 rh := by rw [hW]; exact (by (repeat' (first | with_reducible assumption | (with_reducible exact zeros16 _) | (with_reducible exact sl_new1 _ _ _) | (with_reducible first | apply Sl.upE | apply Sl.upA | apply Sl.upD))))
                have hT : Sl W p2 s rb := by rw [hW]; exact (by (repeat' (first | with_reducible assumption | (with_reducible exact zeros16 _) | (with_reducible exact sl_new1 _ _ _) | (with_reducible first | apply Sl.upE | apply Sl.upA | apply Sl.upD))))
                have hh3 := h3.ext hEX
                have hvW := hv.ext hEX
                clear hW hS1 hS2 hD
                have f3 := hB0.cell? 3 rfl
                have f5 := hB0.cell? 5 rfl
                haveI := hB0.blt
                haveI := hR.blt
                refine wp_region_vague 13 [[], [0], [], [2], [], [2, 3, 4], [], [0, 1, 2, 3, 4, 5, 6], [0, 1, 2, 3, 4, 5, 6, 7], [0, 1, 2, 3, 4, 5, 6, 7, 8], [0, 1, 2, 3, 4, 5, 6, 7, 8], [0, 1, 2, 3, 4, 5, 6, 7, 8, 9], [0, 1, 2, 3, 4, 5, 6, 7, 8, 9, 10, 11]] (by kernel_rfl) (by kernel_rfl) (by kernel_rfl) (by kernel_rfl) ?_; simp only [List.take_succ_cons, List.take_zero, List.drop_succ_cons, List.drop_zero, List.take_nil, List.drop_nil]
                (repeat (apply VD_der; (case h => (intro us w' hx hf; obtain ⟨x, rfl⟩ := hx.out; refine ⟨rfl, ?_⟩; simp [go_sem, execOp, *]; (try simp (disch := omega) only [Go.IntWalk.i64_in, Go.IntWalk.rem_in, Go.IntWalk.wrap64_in]); rfl)); (try simp only [Act.put, List.setIfInBounds_toArray, List.set_cons_succ, List.set_cons_zero])))
                (refine VD_vag (fun p => .slice (p 0).1 2 (p 0).2) (fun p w'' => Bsc w'' (p 0).1 2 [num8 ch.rc, rh]) (fun p w w' h hx => by first | exact h.ext hx | exact ⟨h.1.ext hx, h.2.ext hx⟩ | exact ⟨h.1.ext hx, h.2⟩ | exact ⟨h.1.ext hx, h.2.1.ext hx, h.2.2.ext hx⟩) (fun us w' hx hf => ⟨rfl, ?_⟩) ?_; (unfold gives; simp [go_sem, execOp]; exact vag_bsc (data_any ch.rc (some ⟨pb, po, none⟩) 3 q1 rh w' (hH.ext hx) hl1.1 g4 (by omega))))
                (repeat (apply VD_der; (case h => (intro us w' hx hf; obtain ⟨x, rfl⟩ := hx.out; refine ⟨rfl, ?_⟩; simp [go_sem, execOp, *]; (try simp (disch := omega) only [Go.IntWalk.i64_in, Go.IntWalk.rem_in, Go.IntWalk.wrap64_in]); rfl)); (try simp only [Act.put, List.setIfInBounds_toArray, List.set_cons_succ, List.set_cons_zero])))
                (refine VD_vag (fun p => .tuple #[.slice (p 0).1 (pl.length) (p 0).2, .int .i64 0]) (fun p w'' => Sl w'' (p 0).1 (pl.length) (pl) ∧ (pl.length) ≤ (p 0).2) (fun p w w' h hx => ⟨h.1.ext hx, h.2⟩) (fun us w' hx hf => ⟨rfl, ?_⟩) ?_; (unfold gives; simp [go_sem, execOp]; exact vag_read (hopen _ _ _ _ _ (hh3.ext hx) (hf _ (List.mem_append_right _ (List.mem_singleton_self _)) rfl) (hT.ext hx) hl2.1)))
                (repeat (apply VD_der; (case h => (intro us w' hx hf; obtain ⟨x, rfl⟩ := hx.out; refine ⟨rfl, ?_⟩; simp [go_sem, execOp, *]; (try simp (disch := omega) only [Go.IntWalk.i64_in, Go.IntWalk.rem_in, Go.IntWalk.wrap64_in]); rfl)); (try simp only [Act.put, List.setIfInBounds_toArray, List.set_cons_succ, List.set_cons_zero])))
                (refine VD_nil ?_; intro us w' hx hf; obtain ⟨x, rfl⟩ := hx.out; (try simp only [Act.put, List.setIfInBounds_toArray, List.set_cons_succ, List.set_cons_zero, wpList_none]); (try simp only [List.mem_cons, List.not_mem_nil, or_false, forall_eq_or_imp, forall_eq, List.nil_append, List.cons_append, List.mem_append, false_or, true_and, and_true] at hf); (try simp only [Nat.reduceAdd, Nat.zero_add] at hf); (try simp only [Nat.reduceAdd, Nat.zero_add]))
                obtain ⟨_, hSd, hcd⟩ := hf
                go_wp2_with fail
                refine nameW ?_
                intro W8 hW8
                have hx8 : Ext W W8 := by rw [hW8]; exact Ext.of_ext _ _
                have hE8 := hEX.trans hx8
                have hB8 := hB0.extB hx8
                have hR8 := hR.extB hx8
                have hH8 := hH.ext hx8
                have hv8 := hvW.ext hx8
                have hc8 : W8.cell? ⟨pb, po, none⟩ = some (.int .u8 (n8 (rh.getD 0 0))) := by
                  obtain ⟨b', o', he, _, hc⟩ := hH8.atD 0 (by omega)
                  injection he with he
                  injection he with e1 e2
                  subst e1 e2
                  exact hc
                have hpb8 := hH8.lt (by omega) pb po rfl
                have hpg : pb ≠ w.heap.size + 1 := sl_off_blk hH8 (by omega) hR8 (by simp)
                rw [← hW8] at hSd
                clear hW8
                haveI := hB8.blt
                haveI : BlkLt pb W8 := ⟨hpb8⟩
                have hSE : ∀ w', Ext (W8) w' → (fun w' => Blk w' w.heap.size 24 [.bool ch.cl, .slice a1 ch.sec.length c1, .slice a2 ch.snd.length c2, .slice a3 ch.rcv.length c3, .int .i64 ch.st, .int .i64 ch.rc] ∧ w'.cell? ⟨w.heap.size, 4, none⟩ = some (.int .i64 ch.st) ∧ w'.cell? ⟨w.heap.size, 5, none⟩ = some (.int .i64 ch.rc) ∧ w'.cell? ⟨pb, po, none⟩ = some (.int .u8 (n8 (rh.getD 0 0)))) w' := (fun w' h => ⟨hB8.extB h, (h.cell (p := ⟨w.heap.size, 4, none⟩) hB8.lt).trans (hB8.cell? 4 rfl), (h.cell (p := ⟨w.heap.size, 5, none⟩) hB8.lt).trans (hB8.cell? 5 rfl), (h.cell (p := ⟨pb, po, none⟩) hpb8).trans hc8⟩); have hExt0 : Ext (W8) (W8).drew := Ext.drew (Ext.refl _); refine wp_region_held_drew (S := fun w' => Blk w' w.heap.size 24 [.bool ch.cl, .slice a1 ch.sec.length c1, .slice a2 ch.snd.length c2, .slice a3 ch.rcv.length c3, .int .i64 ch.st, .int .i64 ch.rc] ∧ w'.cell? ⟨w.heap.size, 4, none⟩ = some (.int .i64 ch.st) ∧ w'.cell? ⟨w.heap.size, 5, none⟩ = some (.int .i64 ch.rc) ∧ w'.cell? ⟨pb, po, none⟩ = some (.int .u8 (n8 (rh.getD 0 0)))) (by kernel_rfl) (hSE _ hExt0) (fun hHeld => ?_)
                refine wpAnyH_take (i := 0) rfl (by kernel_rfl) (by kernel_rfl) (by kernel_rfl) (fun _ _ _ h => h) (R5.take_load (RC6) _ rfl rfl (w.heap.size) (0) rfl ([.bool ch.cl, .slice a1 ch.sec.length c1, .slice a2 ch.snd.length c2, .slice a3 ch.rcv.length c3, .int .i64 ch.st, .int .i64 ch.rc]) ((fun w' h => h.1.rd)) (rfl)) hHeld ?_; (try simp only [List.getElem_toArray, List.getElem_cons_succ, List.getElem_cons_zero, Act.put, List.setIfInBounds_toArray, List.set_cons_succ, List.set_cons_zero])
                refine wpAnyH_take (i := 1) (v := ?v153) rfl (by kernel_rfl) (by kernel_rfl) (by kernel_rfl) (fun _ _ _ h => h) (Or.inl ⟨by rfl, ?hy153⟩) hHeld ?_; (case hy153 => (intro w' hx; simp [go_sem, execOp, *]; (try simp (disch := omega) only [Go.IntWalk.i64_in, Go.IntWalk.rem_in, Go.IntWalk.wrap64_in]); rfl)); (try simp only [List.getElem_toArray, List.getElem_cons_succ, List.getElem_cons_zero, Act.put, List.setIfInBounds_toArray, List.set_cons_succ, List.set_cons_zero])
                refine wpAnyH_take (i := 2) (v := ?v154) rfl (by kernel_rfl) (by kernel_rfl) (by kernel_rfl) (fun _ _ _ h => h) (Or.inl ⟨by rfl, ?hy154⟩) hHeld ?_; (case hy154 => (intro w' hx; simp [go_sem, execOp, *]; (try simp (disch := omega) only [Go.IntWalk.i64_in, Go.IntWalk.rem_in, Go.IntWalk.wrap64_in]); rfl)); (try simp only [List.getElem_toArray, List.getElem_cons_succ, List.getElem_cons_zero, Act.put, List.setIfInBounds_toArray, List.set_cons_succ, List.set_cons_zero])
                refine wpAnyH_take (i := 3) (v := ?v155) rfl (by kernel_rfl) (by kernel_rfl) (by kernel_rfl) (fun _ _ _ h => h) (Or.inl ⟨by rfl, ?hy155⟩) hHeld ?_; (case hy155 => (intro w' hx; simp [go_sem, execOp, *]; (try simp (disch := omega) only [Go.IntWalk.i64_in, Go.IntWalk.rem_in, Go.IntWalk.wrap64_in]); rfl)); (try simp only [List.getElem_toArray, List.getElem_cons_succ, List.getElem_cons_zero, Act.put, List.setIfInBounds_toArray, List.set_cons_succ, List.set_cons_zero])
                refine wpAnyH_take (i := 4) (v := ?v156) rfl (by kernel_rfl) (by kernel_rfl) (by kernel_rfl) (fun _ _ _ h => h) (Or.inl ⟨by rfl, ?hy156⟩) hHeld ?_; (case hy156 => (intro w' hx; simp [go_sem, execOp, *]; (try simp (disch := omega) only [Go.IntWalk.i64_in, Go.IntWalk.rem_in, Go.IntWalk.wrap64_in]); rfl)); (try simp only [List.getElem_toArray, List.getElem_cons_succ, List.getElem_cons_zero, Act.put, List.setIfInBounds_toArray, List.set_cons_succ, List.set_cons_zero])
                refine wpAnyH_take (i := 5) (v := ?v157) rfl (by kernel_rfl) (by kernel_rfl) (by kernel_rfl) (fun _ _ _ h => h) (Or.inl ⟨by rfl, ?hy157⟩) hHeld ?_; (case hy157 => (intro w' hx; simp [go_sem, execOp, *]; (try simp (disch := omega) only [Go.IntWalk.i64_in, Go.IntWalk.rem_in, Go.IntWalk.wrap64_in]); rfl)); (try simp only [List.getElem_toArray, List.getElem_cons_succ, List.getElem_cons_zero, Act.put, List.setIfInBounds_toArray, List.set_cons_succ, List.set_cons_zero])
                refine wpAnyH_take (i := 7) (v := ?v158) rfl (by kernel_rfl) (by kernel_rfl) (by kernel_rfl) (fun _ _ _ h => h) (Or.inl ⟨by rfl, ?hy158⟩) hHeld ?_; (case hy158 => (intro w' hx; simp [go_sem, execOp, *]; (try simp (disch := omega) only [Go.IntWalk.i64_in, Go.IntWalk.rem_in, Go.IntWalk.wrap64_in]); rfl)); (try simp only [List.getElem_toArray, List.getElem_cons_succ, List.getElem_cons_zero, Act.put, List.setIfInBounds_toArray, List.set_cons_succ, List.set_cons_zero])
                refine wpAnyH_take (i := 8) (v := ?v159) rfl (by kernel_rfl) (by kernel_rfl) (by kernel_rfl) (fun _ _ _ h => h) (Or.inl ⟨by rfl, ?hy159⟩) hHeld ?_; (case hy159 => (intro w' hx; simp [go_sem, execOp, *]; (try simp (disch := omega) only [Go.IntWalk.i64_in, Go.IntWalk.rem_in, Go.IntWalk.wrap64_in]); rfl)); (try simp only [List.getElem_toArray, List.getElem_cons_succ, List.getElem_cons_zero, Act.put, List.setIfInBounds_toArray, List.set_cons_succ, List.set_cons_zero])
                refine wpAnyH_take (i := 9) (v := ?v160) rfl (by kernel_rfl) (by kernel_rfl) (by kernel_rfl) (fun _ _ _ h => h) (Or.inl ⟨by rfl, ?hy160⟩) hHeld ?_; (case hy160 => (intro w' hx; simp [go_sem, execOp, *]; (try simp (disch := omega) only [Go.IntWalk.i64_in, Go.IntWalk.rem_in, Go.IntWalk.wrap64_in]); rfl)); (try simp only [List.getElem_toArray, List.getElem_cons_succ, List.getElem_cons_zero, Act.put, List.setIfInBounds_toArray, List.set_cons_succ, List.set_cons_zero])
                refine wpAnyH_take (i := 10) (v := ?v161) rfl (by kernel_rfl) (by kernel_rfl) (by kernel_rfl) (fun _ _ _ h => h) (Or.inl ⟨by rfl, ?hy161⟩) hHeld ?_; (case hy161 => (intro w' hx; simp [go_sem, execOp, *]; (try simp (disch := omega) only [Go.IntWalk.i64_in, Go.IntWalk.rem_in, Go.IntWalk.wrap64_in]); rfl)); (try simp only [List.getElem_toArray, List.getElem_cons_succ, List.getElem_cons_zero, Act.put, List.setIfInBounds_toArray, List.set_cons_succ, List.set_cons_zero])
                refine wpAnyH_take (i := 11) (v := ?v162) rfl (by kernel_rfl) (by kernel_rfl) (by kernel_rfl) (fun _ _ _ h => h) (Or.inl ⟨by rfl, ?hy162⟩) hHeld ?_; (case hy162 => (intro w' hx; simp [go_sem, execOp, *]; (try simp (disch := omega) only [Go.IntWalk.i64_in, Go.IntWalk.rem_in, Go.IntWalk.wrap64_in]); rfl)); (try simp only [List.getElem_toArray, List.getElem_cons_succ, List.getElem_cons_zero, Act.put, List.setIfInBounds_toArray, List.set_cons_succ, List.set_cons_zero])
                (refine R5.any_only 6 (by kernel_rfl) rfl rfl ?_; unfold gives; simp [go_sem, execOp])
                (with_reducible refine (hcop _ (hv8.ext hExt0)).mono ?_)
                rintro e w5 ⟨v, rfl, hvr, hx5⟩
                obtain ⟨b1, d1, b2, d2, b3, d3, rfl, g1, q1', g2', q2', g3', q3'⟩ := hvr
                have hx5 : Ext W8 w5 := hExt0.trans hx5
                refine ⟨_, rfl, hSE _ hx5, ?_⟩
                (try simp only [List.getElem_toArray, List.getElem_cons_succ, List.getElem_cons_zero, Act.put, List.setIfInBounds_toArray, List.set_cons_succ, List.set_cons_zero])
                obtain ⟨hb5, _, _, hcp⟩ := hSE _ hx5
                (refine R5.only_store RC6 12 (by kernel_rfl) rfl rfl _ _ rfl (w.heap.size + 1) 0 rfl [.bool (keyed ch.cl ch.sec ch.st (ch.rc + 1)).cl, .slice b1 (keyed ch.cl ch.sec ch.st (ch.rc + 1)).sec.length d1, .slice b2 (keyed ch.cl ch.sec ch.st (ch.rc + 1)).snd.length d2, .slice b3 (keyed ch.cl ch.sec ch.st (ch.rc + 1)).rcv.length d3, .int .i64 (keyed ch.cl ch.sec ch.st (ch.rc + 1)).st, .int .i64 (keyed ch.cl ch.sec ch.st (ch.rc + 1)).rc] rfl 24 _ (hR8.extB hx5) rfl (by simp) (by simp; (repeat' (first | rfl | constructor))) ?_; intro w9 hB9 hM9)
                have hb9 := Blk.turn hM9 hb5 (by omega)
                have hS9 : (fun w' => Blk w' w.heap.size 24 [.bool ch.cl, .slice a1 ch.sec.length c1, .slice a2 ch.snd.length c2, .slice a3 ch.rcv.length c3, .int .i64 ch.st, .int .i64 ch.rc] ∧ w'.cell? ⟨w.heap.size, 4, none⟩ = some (.int .i64 ch.st) ∧ w'.cell? ⟨w.heap.size, 5, none⟩ = some (.int .i64 ch.rc) ∧ w'.cell? ⟨pb, po, none⟩ = some (.int .u8 (n8 (rh.getD 0 0)))) w9 := ⟨hb9, hb9.cell? 4 rfl, hb9.cell? 5 rfl, (World.cell?_of_block (hM9.block pb (Nat.lt_of_lt_of_le hpb8 hx5.size) (fun e => hpg (by injection e)))).trans hcp⟩
                refine ⟨hS9, ?_⟩
                (try simp only [List.getElem_toArray, List.getElem_cons_succ, List.getElem_cons_zero, Act.put, List.setIfInBounds_toArray, List.set_cons_succ, List.set_cons_zero])
                (refine R5.any_only 13 (by kernel_rfl) rfl rfl ?_; unfold gives; simp [go_sem, execOp])
                refine ⟨hS9, ?_⟩
                (try simp only [List.getElem_toArray, List.getElem_cons_succ, List.getElem_cons_zero, Act.put, List.setIfInBounds_toArray, List.set_cons_succ, List.set_cons_zero])
                (refine R5.any_only 14 (by kernel_rfl) rfl rfl ?_; unfold gives; simp [go_sem, execOp])
                refine ⟨hS9, ?_⟩
                (try simp only [List.getElem_toArray, List.getElem_cons_succ, List.getElem_cons_zero, Act.put, List.setIfInBounds_toArray, List.set_cons_succ, List.set_cons_zero])
                (refine R5.any_only 15 (by kernel_rfl) rfl rfl ?_; unfold gives; simp [go_sem, execOp])
                refine ⟨hS9, ?_⟩
                (try simp only [List.getElem_toArray, List.getElem_cons_succ, List.getElem_cons_zero, Act.put, List.setIfInBounds_toArray, List.set_cons_succ, List.set_cons_zero])
                refine wpAnyH_done (by kernel_rfl) ?_ _
                go_wp2
                refine bodyPost_ret (results_arr_tmp3 Try.results22 RC6 _ _ (w.heap.size + 1) 0 [.bool (keyed ch.cl ch.sec ch.st (ch.rc + 1)).cl, .slice b1 (keyed ch.cl ch.sec ch.st (ch.rc + 1)).sec.length d1, .slice b2 (keyed ch.cl ch.sec ch.st (ch.rc + 1)).snd.length d2, .slice b3 (keyed ch.cl ch.sec ch.st (ch.rc + 1)).rcv.length d3, .int .i64 (keyed ch.cl ch.sec ch.st (ch.rc + 1)).st, .int .i64 (keyed ch.cl ch.sec ch.st (ch.rc + 1)).rc] rfl hB9.rd rfl _ _ _ rfl rfl rfl) rfl ?_
                have hE7 := hE8.trans hx5
                have hE9 : Ext w w9 := Below.trans hE7 (hM9.below (by omega) hE7.size)
                have hR5 := hR8.extB hx5
                exact ⟨_, _, _, rfl, ChR.mk (c := (keyed ch.cl ch.sec ch.st (ch.rc + 1))) (Sl.mut g1 hR5 (by simp) hM9) q1' (Sl.mut g2' hR5 (by simp) hM9) q2' (Sl.mut g3' hR5 (by simp) hM9) q3', Sl.mut (hSd.ext hx5) hR5 (by simp) hM9, hcd, hE9⟩
              · rw [if_pos her]
                have hI5 := ne0 her
                go_enter Try.func22, Try.ntmps22
                go_wp2_with (first | (go_at_call 51; (with_reducible refine (hval ?_ ?hq184).mono ?_); (case hq184 => (repeat' (first | with_reducible assumption | (with_reducible first | apply ChR.upE | apply ChR.upA | apply ChR.upD)))); rintro e w1 ⟨rfl, hxq⟩; obtain ⟨xq, rfl⟩ := hxq.out; clear hxq) | fail)
                refine (hcut _ (by (repeat' (first | with_reducible assumption | (with_reducible exact zeros16 _) | (with_reducible exact sl_new1 _ _ _) | (with_reducible first | apply Sl.upE | apply Sl.upA | apply Sl.upD))))).mono ?_
                rintro e _ ⟨p1, q1, p2, q2, rfl, hO1, hO2, hx⟩
                obtain ⟨xc, rfl⟩ := hx.out
                have hl1 := hO1.le
                have hl2 := hO2.le
                have hS1 := hO1.sl
                have hS2 := hO2.sl
                obtain ⟨pb, po, rfl, hpb, hp0⟩ := hS1.atD 0 (by omega)
                have hD := sl_from hS1 hl1.1 (i := 1) (by omega)
                have hq1 : (1 : Int) ≤ (q1 : Int) := by omega
                clear hO1 hO2 hx
                go_wp2_with (first | (go_at_call 90; (with_reducible refine (hget ?_ ?_ ?_ ?hq185 ?hq186).mono ?_); (case hq185 => (repeat' (first | with_reducible assumption | (with_reducible exact zeros16 _) | (with_reducible exact sl_new1 _ _ _) | (with_reducible first | apply Sl.upE | apply Sl.upA | apply Sl.upD)))); (case hq186 => omega); rintro e w1 ⟨rfl, hxq⟩; obtain ⟨xq, rfl⟩ := hxq.out; clear hxq) | fail)
                refine nameW ?_
                intro W hW
                have hEX : Ext w W := by rw [hW]; exact (by repeat (first | (with_reducible first | exact Ext.refl _ | assumption | apply Ext.alloc | apply Ext.ext | apply Ext.drew | refine Ext.setCell ?_ ?_ _) | (focus (simp [go_sem]; done))))
                have hB0 : Blk W w.heap.size 24 [.bool ch.cl, .slice a1 ch.sec.length c1, .slice a2 ch.snd.length c2, .slice a3 ch.rcv.length c3, .int .i64 ch.st, .int .i64 ch.rc] := by rw [hW]; exact (by repeat (first | assumption | (refine Blk.newAt _ _ _ _ ?_; first | rfl | (simp only [World.size_alloc]; done)) | apply Blk.ext | apply Blk.alloc | (refine Blk.other ?_ ?_ _; rotate_left; (simp <;> omega))))
                have hR : Blk W (w.heap.size + 1) 24 [.bool false, .slice none 0 0, .slice none 0 0, .slice none 0 0, .int .i64 0, .int .i64 0] := by rw [hW]; exact (by repeat (first | assumption | (refine Blk.newAt _ _ _ _ ?_; first | rfl | (simp only [World.size_alloc]; done)) | apply Blk.ext | apply Blk.alloc | (refine Blk.other ?_ ?_ _; rotate_left; (simp <;> omega))))
                have hH : Sl W (some ⟨pb, po, none⟩) 3 rh := by rw [hW]; exact (by (repeat' (first | with_reducible assumption | (with_reducible exact zeros16 _) | (with_reducible exact sl_new1 _ _ _) | (with_reducible first | apply Sl.upE | apply Sl.upA | apply Sl.upD))))
                have hT : Sl W p2 s rb := by rw [hW]; exact (by (repeat' (first | with_reducible assumption | (with_reducible exact zeros16 _) | (with_reducible exact sl_new1 _ _ _) | (with_reducible first | apply Sl.upE | apply Sl.upA | apply Sl.upD))))
                have hh3 := h3.ext hEX
                have hvW := hv.ext hEX
                clear hW hS1 hS2 hD
                have f3 := hB0.cell? 3 rfl
                have f5 := hB0.cell? 5 rfl
                haveI := hB0.blt
                haveI := hR.blt
                refine wp_region_vague 13 [[], [0], [], [2], [], [2, 3, 4], [], [0, 1, 2, 3, 4, 5, 6], [0, 1, 2, 3, 4, 5, 6, 7], [0, 1, 2, 3, 4, 5, 6, 7, 8], [0, 1, 2, 3, 4, 5, 6, 7, 8], [0, 1, 2, 3, 4, 5, 6, 7, 8, 9], [0, 1, 2, 3, 4, 5, 6, 7, 8, 9, 10, 11]] (by kernel_rfl) (by kernel_rfl) (by kernel_rfl) (by kernel_rfl) ?_; simp only [List.take_succ_cons, List.take_zero, List.drop_succ_cons, List.drop_zero, List.take_nil, List.drop_nil]
                (repeat (apply VD_der; (case h => (intro us w' hx hf; obtain ⟨x, rfl⟩ := hx.out; refine ⟨rfl, ?_⟩; simp [go_sem, execOp, *]; (try simp (disch := omega) only [Go.IntWalk.i64_in, Go.IntWalk.rem_in, Go.IntWalk.wrap64_in]); rfl)); (try simp only [Act.put, List.setIfInBounds_toArray, List.set_cons_succ, List.set_cons_zero])))
                (refine VD_vag (fun p => .slice (p 0).1 2 (p 0).2) (fun p w'' => Bsc w'' (p 0).1 2 [num8 ch.rc, rh]) (fun p w w' h hx => by first | exact h.ext hx | exact ⟨h.1.ext hx, h.2.ext hx⟩ | exact ⟨h.1.ext hx, h.2⟩ | exact ⟨h.1.ext hx, h.2.1.ext hx, h.2.2.ext hx⟩) (fun us w' hx hf => ⟨rfl, ?_⟩) ?_; (unfold gives; simp [go_sem, execOp]; exact vag_bsc (data_any ch.rc (some ⟨pb, po, none⟩) 3 q1 rh w' (hH.ext hx) hl1.1 g4 (by omega))))
                (repeat (apply VD_der; (case h => (intro us w' hx hf; obtain ⟨x, rfl⟩ := hx.out; refine ⟨rfl, ?_⟩; simp [go_sem, execOp, *]; (try simp (disch := omega) only [Go.IntWalk.i64_in, Go.IntWalk.rem_in, Go.IntWalk.wrap64_in]); rfl)); (try simp only [Act.put, List.setIfInBounds_toArray, List.set_cons_succ, List.set_cons_zero])))
                (refine VD_vag (fun p => .tuple #[.slice (p 0).1 (pl.length) (p 0).2, .int .i64 er]) (fun p w'' => Sl w'' (p 0).1 (pl.length) (pl) ∧ (pl.length) ≤ (p 0).2) (fun p w w' h hx => ⟨h.1.ext hx, h.2⟩) (fun us w' hx hf => ⟨rfl, ?_⟩) ?_; (unfold gives; simp [go_sem, execOp]; exact vag_read (hopen _ _ _ _ _ (hh3.ext hx) (hf _ (List.mem_append_right _ (List.mem_singleton_self _)) rfl) (hT.ext hx) hl2.1)))
                (repeat (apply VD_der; (case h => (intro us w' hx hf; obtain ⟨x, rfl⟩ := hx.out; refine ⟨rfl, ?_⟩; simp [go_sem, execOp, *]; (try simp (disch := omega) only [Go.IntWalk.i64_in, Go.IntWalk.rem_in, Go.IntWalk.wrap64_in]); rfl)); (try simp only [Act.put, List.setIfInBounds_toArray, List.set_cons_succ, List.set_cons_zero])))
                (refine VD_nil ?_; intro us w' hx hf; obtain ⟨x, rfl⟩ := hx.out; (try simp only [Act.put, List.setIfInBounds_toArray, List.set_cons_succ, List.set_cons_zero, wpList_none]); (try simp only [List.mem_cons, List.not_mem_nil, or_false, forall_eq_or_imp, forall_eq, List.nil_append, List.cons_append, List.mem_append, false_or, true_and, and_true] at hf); (try simp only [Nat.reduceAdd, Nat.zero_add] at hf); (try simp only [Nat.reduceAdd, Nat.zero_add]))
                obtain ⟨_, hSd, hcd⟩ := hf
                clear her
                have hRx := hR.ext x
                haveI := hRx.blt
                go_wp2_with (first
                  | (refine wpList_store_arr (RC6) rfl _ _ rfl (w.heap.size + 1) (0) rfl ([.bool false, .slice none 0 0, .slice none 0 0, .slice none 0 0, .int .i64 0, .int .i64 0]) rfl (24) _ (hRx) (rfl) (by simp) (by first | exact one_u8 _ | (simp; done) | (simp; (repeat' (first | rfl | constructor)))) ?_; intro w9 hB9 hM9)
                  | fail)
                refine bodyPost_ret (results_arr_tmp3 Try.results22 RC6 _ _ (w.heap.size + 1) 0 [.bool false, .slice none 0 0, .slice none 0 0, .slice none 0 0, .int .i64 0, .int .i64 0] rfl hB9.rd rfl _ _ _ rfl rfl rfl) rfl ?_
                have hE7 := hEX.ext x
                exact RecvP.err _ _ _ (Below.trans hE7 (hM9.below (by omega) hE7.size))
end Go.Proofs.Ytkjdlbjbppbmdaa
