/- CipherPermutes: the walk of the law. -/
import Derived.Test.YthooaeeajeajnaaCiphB
import Derived.Test.YthooaeeajeajnaaSha4
import Derived.Test.YthooaeeajeajnaaPermP
namespace Go.Proofs.Ythooaeeajeajnaa
open Go.RowKit Go.Sec Go.Oct Go.Aes Go.Sha BigFrame

theorem block_sl (a b : Option Addr) (ca cb : Nat) (ky l : List UInt8) (w : World) (hk : Sl w a 16 ky) (hl : Sl w b 16 l) (hca : 16 ≤ ca) :
    Calls Try.prog 18 #[.slice a 16 ca, .slice b 16 cb] w (Read2 16 (Aes.block ky l) (.int .i64 0) w) :=
  (block_any a b ca cb ky l w hk hl hca).mono fun _ _ ⟨g, he, _, hB, hx⟩ => ⟨_, _, he, hB.sl (block_length _ _), by omega, hx⟩

theorem chg_length (l : List UInt8) (at' by' : Int) : (chg l at' by').length = l.length := by simp [chg]
theorem b8_ne (by' : Int) : b8 (1 + by' % 255) ≠ 0 := by
  intro h
  have := congrArg n8 h
  rw [n8_b8] at this
  have h0 : n8 0 = 0 := rfl
  omega
theorem chg_ne (l : List UInt8) (at' by' : Int) (hl : 1 ≤ l.length) : chg l at' by' ≠ l := by
  intro h
  have h1 := Int.emod_lt_of_pos at' (show (0 : Int) < (l.length : Int) by omega)
  have h2 := Int.emod_nonneg at' (show (l.length : Int) ≠ 0 by omega)
  have := congrArg (fun m => m.getD (at' % (l.length : Int)).toNat 0) h
  have hi : (at' % (l.length : Int)).toNat < l.length := by omega
  unfold chg at this
  generalize (at' % (l.length : Int)).toNat = i at *
  simp [hi] at this
  exact b8_ne by' (by have h2 := congrArg (l[i] ^^^ ·) this; simpa [← UInt8.xor_assoc] using h2)

set_option maxRecDepth 100000 in
set_option maxHeartbeats 4000000 in
theorem cipherPermutes_walk (seed at' by' : Int) (w : World) : Calls Try.prog 3 #[.int .i64 seed, .int .i64 at', .int .i64 by'] w fun e w' => e = .returned (.bool true) ∧ Ext w w' := by
  obtain ⟨s, hs⟩ : ∃ s : Nat, seed % 1000 = (s : Int) := ⟨(seed % 1000).toNat, by omega⟩
  have hs1 : s < 1000 := by omega
  have HS := Lib.hid hs
  clear hs
  have hne : (Aes.block ((wbytes s 32).take 16) ((wbytes s 32).drop 16) == Aes.block ((wbytes s 32).take 16) (chg ((wbytes s 32).drop 16) at' by')) = false := by
    rw [beq_eq_false_iff_ne]
    intro h
    have hl : ((wbytes s 32).drop 16).length = 16 := by rw [List.length_drop, wbytes_length]
    exact chg_ne _ at' by' (by omega) (block_inj _ hl (by rw [chg_length, hl]) h).symm
  go_enter Try.func3, Try.ntmps3
  go_wp2_with fail; (with_reducible refine (within_any seed 1000 _ (by omega) (by omega)).mono ?_); rintro e w1 ⟨rfl, hxq⟩; obtain ⟨xq, rfl⟩ := hxq.out; clear hxq
  rw [HS.out]
  go_wp2_with fail; (with_reducible refine (wbytes_any s 32 (by omega) (by omega) _ (by omega) (by omega)).mono ?_); rintro e w1 ⟨a1, c1, rfl, hO1, hx1⟩
  have hle := hO1.le
  have hw1 : Ext w w1 := (Ext.of_ext _ _).trans hx1
  have hk := hO1.sl.take 16 (by omega)
  have hb := hO1.sl.drop c1 16 hle.1
  generalize (wbytes s 32).take 16 = ky at *
  generalize (wbytes s 32).drop 16 = bl at *
  have hc16 : 16 ≤ c1 := by omega
  have hcI : (16 : Int) ≤ (c1 : Int) := by omega
  have hkl := hk.len
  have hbl := hb.len
  go_wp2_with fail
  refine wp_region_vague 10 [[], [0], [], [2], [0, 1, 2, 3], [0, 1, 2, 3, 4], [0, 1, 2, 3, 4, 5], [0, 1, 2, 3, 4, 5], [0, 1, 2, 3, 4, 5, 6], [0, 1, 2, 3, 4, 5, 6, 7, 8]] (by kernel_rfl) (by kernel_rfl) (by kernel_rfl) (by kernel_rfl) ?_; simp only [List.take_succ_cons, List.take_zero, List.drop_succ_cons, List.drop_zero, List.take_nil, List.drop_nil]
  (repeat (apply VD_der; (case h => (intro us w' hx hf; obtain ⟨x, rfl⟩ := hx.out; refine ⟨rfl, ?_⟩; simp [go_sem, execOp, *]; (try simp (disch := omega) only [Go.IntWalk.i64_in, Go.IntWalk.rem_in, Go.IntWalk.wrap64_in]); rfl)); (try simp only [Act.put, List.setIfInBounds_toArray, List.set_cons_succ, List.set_cons_zero])))
  (refine VD_vag (fun p => .tuple #[.slice (p 0).1 (16) (p 0).2, .int .i64 0]) (fun p w'' => Sl w'' (p 0).1 (16) (Aes.block ky bl) ∧ (16) ≤ (p 0).2) (fun p w w' h hx => ⟨h.1.ext hx, h.2⟩) (fun us w' hx hf => ⟨rfl, ?_⟩) ?_; (unfold gives; simp [go_sem, execOp]; exact vag_read (block_sl a1 _ c1 _ _ _ _ (hk.ext hx) (hb.ext hx) hc16)))
  (repeat (apply VD_der; (case h => (intro us w' hx hf; obtain ⟨x, rfl⟩ := hx.out; refine ⟨rfl, ?_⟩; simp [go_sem, execOp, *]; (try simp (disch := omega) only [Go.IntWalk.i64_in, Go.IntWalk.rem_in, Go.IntWalk.wrap64_in]); rfl)); (try simp only [Act.put, List.setIfInBounds_toArray, List.set_cons_succ, List.set_cons_zero])))
  (refine VD_nil ?_; intro us w' hx hf; obtain ⟨x, rfl⟩ := hx.out; (try simp only [Act.put, List.setIfInBounds_toArray, List.set_cons_succ, List.set_cons_zero, wpList_none]); (try simp only [List.mem_cons, List.not_mem_nil, or_false, forall_eq_or_imp, forall_eq, List.nil_append, List.cons_append, List.mem_append, false_or, true_and, and_true] at hf); (try simp only [Nat.reduceAdd, Nat.zero_add] at hf); (try simp only [Nat.reduceAdd, Nat.zero_add]))
  obtain ⟨hX, _⟩ := hf
  generalize (us 4 0).1 = p1 at *
  generalize (us 4 0).2 = q1 at *
  go_wp2_with fail
  refine wp_region_vague 13 [[], [0], [], [2], [], [], [2, 3, 4, 5], [0, 1, 2, 3, 4, 5, 6], [0, 1, 2, 3, 4, 5, 6, 7], [0, 1, 2, 3, 4, 5, 6, 7, 8], [0, 1, 2, 3, 4, 5, 6, 7, 8], [0, 1, 2, 3, 4, 5, 6, 7, 8, 9], [0, 1, 2, 3, 4, 5, 6, 7, 8, 9, 10, 11]] (by kernel_rfl) (by kernel_rfl) (by kernel_rfl) (by kernel_rfl) ?_; simp only [List.take_succ_cons, List.take_zero, List.drop_succ_cons, List.drop_zero, List.take_nil, List.drop_nil]
  (repeat (apply VD_der; (case h => (intro us w' hx hf; obtain ⟨x, rfl⟩ := hx.out; refine ⟨rfl, ?_⟩; simp [go_sem, execOp, *]; (try simp (disch := omega) only [Go.IntWalk.i64_in, Go.IntWalk.rem_in, Go.IntWalk.wrap64_in]); rfl)); (try simp only [Act.put, List.setIfInBounds_toArray, List.set_cons_succ, List.set_cons_zero])))
  (refine VD_vag (fun p => .slice (p 0).1 (16) (p 0).2) (fun p w'' => Own w'' 0 (p 0).1 (16) (p 0).2 (chg bl at' by')) (fun p w w' h hx => h.ext hx) (fun us w' hx hf => ⟨rfl, ?_⟩) ?_; (unfold gives; simp [go_sem, execOp]; exact vag_fresh (Nat.zero_le _) (changed_any _ _ _ bl _ _ _ (hb.ext (Ext.trans (Ext.of_ext _ _) hx)) (by omega) (by omega))))
  (refine VD_vag (fun p => .tuple #[.slice (p 0).1 (16) (p 0).2, .int .i64 0]) (fun p w'' => Sl w'' (p 0).1 (16) (Aes.block ky (chg bl at' by')) ∧ (16) ≤ (p 0).2) (fun p w w' h hx => ⟨h.1.ext hx, h.2⟩) (fun us w' hx hf => ⟨rfl, ?_⟩) ?_; (unfold gives; simp [go_sem, execOp]; exact vag_read (block_sl a1 _ c1 _ _ _ _ (hk.ext (Ext.trans (Ext.of_ext _ _) hx)) (Own.sl (by exact (hf _ (List.mem_append_right _ (List.mem_singleton_self _)) rfl))) hc16)))
  (repeat (apply VD_der; (case h => (intro us w' hx hf; obtain ⟨x, rfl⟩ := hx.out; refine ⟨rfl, ?_⟩; simp [go_sem, execOp, *]; (try simp (disch := omega) only [Go.IntWalk.i64_in, Go.IntWalk.rem_in, Go.IntWalk.wrap64_in]); rfl)); (try simp only [Act.put, List.setIfInBounds_toArray, List.set_cons_succ, List.set_cons_zero])))
  (refine VD_nil ?_; intro us w' hx hf; obtain ⟨x, rfl⟩ := hx.out; (try simp only [Act.put, List.setIfInBounds_toArray, List.set_cons_succ, List.set_cons_zero, wpList_none]); (try simp only [List.mem_cons, List.not_mem_nil, or_false, forall_eq_or_imp, forall_eq, List.nil_append, List.cons_append, List.mem_append, false_or, true_and, and_true] at hf); (try simp only [Nat.reduceAdd, Nat.zero_add] at hf); (try simp only [Nat.reduceAdd, Nat.zero_add]))
  obtain ⟨_, hY, _⟩ := hf
  generalize (us 7 0).1 = p2 at *
  generalize (us 7 0).2 = q2 at *
  have hX2 := hX.ext hx
  go_wp2_with (first
    | (go_at_call 20; refine (known4_any _).mono ?_; rintro e w1 ⟨rfl, hxq⟩; obtain ⟨xq, rfl⟩ := hxq.out; clear hxq)
    | (go_at_call 21; refine (same_any _ _ _ _ _ _ _ _ _ (hX2.ext (by repeat (first | (with_reducible first | exact Ext.refl _ | assumption | apply Ext.alloc | apply Ext.ext | apply Ext.drew | refine Ext.setCell ?_ ?_ _) | (focus (simp [go_sem]; done))))) (hY.ext (by repeat (first | (with_reducible first | exact Ext.refl _ | assumption | apply Ext.alloc | apply Ext.ext | apply Ext.drew | refine Ext.setCell ?_ ?_ _) | (focus (simp [go_sem]; done)))))).mono ?_; rintro e w1 ⟨rfl, hxq⟩; obtain ⟨xq, rfl⟩ := hxq.out; clear hxq))
  go_returns
  exact ⟨rfl, (by repeat (first | (with_reducible first | exact Ext.refl _ | assumption | apply Ext.alloc | apply Ext.ext | apply Ext.drew | refine Ext.setCell ?_ ?_ _) | (focus (simp [go_sem]; done))))⟩
end Go.Proofs.Ythooaeeajeajnaa
