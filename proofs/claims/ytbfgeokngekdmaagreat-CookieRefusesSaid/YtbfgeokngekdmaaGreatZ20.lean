/- Lemmas of this claim, several texts joined. -/
import Derived.Test.YtbfgeokngekdmaaGreatZ11
import Derived.Test.YtbfgeokngekdmaaGreatZ12
import Derived.Test.YtbfgeokngekdmaaGreatZ19
import Derived.Test.YtbfgeokngekdmaaGreatZ28
set_option linter.unusedVariables false
set_option linter.unusedSimpArgs false
/- The document's layer 5: the mac of a prepared key. -/
namespace Go.Aes
theorem xor16_assoc (a b c : List UInt8) : xor16 (xor16 a b) c = xor16 a (xor16 b c) := by
  unfold xor16
  apply List.map_congr_left
  intro i hi
  have hi := List.mem_range.1 hi
  unfold xorF
  rw [at_map16 _ _ hi, at_map16 _ _ hi, UInt8.xor_assoc]
/-- What the document's mac does with the last block. -/
def endR (ks r : List UInt8) : List UInt8 := if r.length = 16 then xor16 r (sub1 ks) else xor16 (fill r) (sub2 ks)
theorem mac_ref (ks b : List UInt8) : mac ks b = enc ks (xor16 (cbc ks b ((b.length - 1) / 16)) (endR ks (b.drop (16 * ((b.length - 1) / 16))))) := by
  unfold mac macW
  simp only
  rw [xor16_assoc]
  unfold endR last2
  split <;> rfl
end Go.Aes
namespace Go.Proofs.YtbfgeokngekdmaaGreat
open Go.RowKit Go.Sec Go.Oct Go.Aes Go.Sha BigFrame

theorem pad16_any (a : Option Addr) (n c : Nat) (l : List UInt8) (w : World) (h : Sl w a n l) (h1 : 1 ≤ n) (h2 : n ≤ 16) :
    Calls Tryz.prog 85 #[.slice a n c, .int .i64 16] w (Fresh 16 (l ++ List.replicate (16 - n) 0) w) :=
  pad_any a n c l 16 w h (by omega) (by omega) (by omega) 16 (by omega)

set_option maxRecDepth 100000 in
set_option maxHeartbeats 4000000 in
theorem rmac_any (a : Option Addr) (n c : Nat) (ks b : List UInt8) (hks : ks.length = 176) (w : World) (h : Sl w a n b) (hnc : n ≤ c) (hn : n ≤ 1000000) :
    Calls Tryz.prog 82 #[.agg ((pre ks).map u8v).toArray, .slice a n c] w (Fresh 16 (mac ks b) w) := by
  have hpl := pre_length ks (by omega)
  have hbl := h.len
  have renc : ∀ (a : Option Addr) (c : Nat) (l : List UInt8) (w : World), Sl w a 16 l → 16 ≤ c → Calls Tryz.prog 65 #[.agg ((pre ks).map u8v).toArray, .slice a 16 c] w (Fresh 16 (enc ks l) w) := fun a c l w h hc => renc_any a c ks l hks w h hc
  obtain ⟨pk, hpk⟩ : ∃ pk, Hid (pk = pre ks) := ⟨_, Lib.hid rfl⟩
  rw [← hpk.out] at renc hpl ⊢
  have hM0 := Blk.new w (List.map u8v pk).toArray 89
  have hx0 : Ext w (w.alloc (.cells (List.map u8v pk).toArray 89)) := (by repeat (first | (with_reducible first | exact Ext.refl _ | assumption | apply Ext.alloc | apply Ext.ext | apply Ext.drew | refine Ext.setCell ?_ ?_ _) | (focus (simp [go_sem]; done))))
  obtain ⟨nb, hnb⟩ : ∃ nb, Hid (nb = (n - 1) / 16) := ⟨_, Lib.hid rfl⟩
  have hfin := Lib.hid (mac_ref ks b)
  rw [hbl, ← hnb.out] at hfin
  have hs1 := Lib.hid (show sub1 ks = tw (enc ks zero16) from rfl)
  go_enter Tryz.func82, Tryz.ntmps82
  go_wp2_with fail
  have hM0 : Blk (w.alloc (.cells (List.map u8v pk).toArray 89)) w.heap.size 89 (pk.map u8v) := hM0
  generalize w.alloc _ = W at *
  refine wp_region_vague 5 [[], [], [0, 1], [0, 1, 2], [0, 1, 2, 3]] (by kernel_rfl) (by kernel_rfl) (by kernel_rfl) (by kernel_rfl) ?_; simp only [List.take_succ_cons, List.take_zero, List.drop_succ_cons, List.drop_zero, List.take_nil, List.drop_nil]
  (repeat (apply VD_der; (case h => (intro us w' hx hf; obtain ⟨x, rfl⟩ := hx.out; refine ⟨rfl, ?_⟩; simp [go_sem, execOp, *]; (try simp (disch := omega) only [Go.IntWalk.i64_in, Go.IntWalk.rem_in, Go.IntWalk.wrap64_in]); rfl)); (try simp only [Act.put, List.setIfInBounds_toArray, List.set_cons_succ, List.set_cons_zero])))
  (refine VD_load_arr (R84) _ rfl (fun _ => rfl) (w.heap.size) (0) (fun _ => by simp [go_sem]) (pk.map u8v) (hM0.rd) ((by simpa using hpl)) ?_)
  (refine VD_vag (fun p => .slice (p 0).1 (16) (16)) (fun p w'' => Sl w'' (p 0).1 (16) (zero16)) (fun p w w' h hx => h.ext hx) (fun us w' hx hf => ⟨rfl, ?_⟩) ?_; (unfold gives; simp [go_sem, execOp, make16]; exact ⟨fun _ => (some ⟨w'.heap.size, 0, none⟩, 0), rfl, Ext.of_alloc _ _, (blk_zeros8 _ _).sl rfl⟩))
  (refine VD_vag (fun p => .slice (p 0).1 (16) (p 0).2) (fun p w'' => Own w'' 0 (p 0).1 (16) (p 0).2 (enc ks zero16)) (fun p w w' h hx => h.ext hx) (fun us w' hx hf => ⟨rfl, ?_⟩) ?_; (unfold gives; simp [go_sem, execOp]; exact vag_fresh (Nat.zero_le _) (renc _ _ _ _ (hf _ (List.mem_append_right _ (List.mem_singleton_self _)) rfl) (by omega))))
  (refine VD_vag (fun p => .slice (p 0).1 (16) (p 0).2) (fun p w'' => Own w'' 0 (p 0).1 (16) (p 0).2 (tw (enc ks zero16))) (fun p w w' h hx => h.ext hx) (fun us w' hx hf => ⟨rfl, ?_⟩) ?_; (unfold gives; simp [go_sem, execOp]; exact vag_fresh (Nat.zero_le _) (rdouble_any _ _ _ _ (Own.sl (by exact (hf _ (List.mem_append_right _ (List.mem_singleton_self _)) rfl))))))
  (repeat (apply VD_der; (case h => (intro us w' hx hf; obtain ⟨x, rfl⟩ := hx.out; refine ⟨rfl, ?_⟩; simp [go_sem, execOp, *]; (try simp (disch := omega) only [Go.IntWalk.i64_in, Go.IntWalk.rem_in, Go.IntWalk.wrap64_in]); rfl)); (try simp only [Act.put, List.setIfInBounds_toArray, List.set_cons_succ, List.set_cons_zero])))
  (refine VD_nil ?_; intro us w' hx hf; obtain ⟨x, rfl⟩ := hx.out; (try simp only [Act.put, List.setIfInBounds_toArray, List.set_cons_succ, List.set_cons_zero, wpList_none]); (try simp only [List.mem_cons, List.not_mem_nil, or_false, forall_eq_or_imp, forall_eq, List.nil_append, List.cons_append, List.mem_append, false_or, true_and, and_true] at hf); (try simp only [Nat.reduceAdd, Nat.zero_add] at hf); (try simp only [Nat.reduceAdd, Nat.zero_add]))
  obtain ⟨-, -, hO3⟩ := hf
  rw [← hs1.out] at hO3
  have hM1 := hM0.extB hx
  have hx1 := hx0.trans hx
  generalize (us 3 0).1 = a5 at *
  generalize (us 3 0).2 = c5 at *
  generalize us 1 = u1 at *
  generalize us 2 = u2 at *
  clear hM0 hx0
  generalize W.ext x = W1 at *
  clear hx
  have hle3 := hO3.le
  obtain ⟨lst, hlst⟩ : ∃ lst : Nat, Hid (lst = 16 * nb) := ⟨_, Lib.hid rfl⟩
  have hq0 : n = 0 → lst = 0 := fun h0 => by rw [hlst.out, hnb.out, h0]
  have hq1 : 0 < n → ((n : Int) + 15) / 16 * 16 - 16 = (lst : Int) := fun h0 => by rw [hlst.out, hnb.out]; omega
  have hq2 : lst ≤ n := by rw [hlst.out, hnb.out]; omega
  have hdv : ((n : Int) + 15) / 16 ≤ 100000000 := by omega
  have hdv0 : (0 : Int) ≤ ((n : Int) + 15) / 16 := by omega
  have hmk := make16
  have hV0 := zeros16 W1
  have hM2 := hM1.alloc (.cells (zerosOf (.int .u8 0) 16) 5)
  have hx2 : Ext w (W1.alloc (.cells (zerosOf (.int .u8 0) 16) 5)) := hx1.alloc _
  have hO5 := hO3.ext (Ext.of_alloc W1 (.cells (zerosOf (.int .u8 0) 16) 5))
  have hsc : Sl w (sAdr a c lst 1) (n - lst) (b.drop lst) := h.drop c lst hnc
  by_cases h0 : n = 0
  · have h0I : ((n : Int) == 0) = true := by rw [beq_iff_eq]; omega
    have hq := hq0 h0
    go_wp2_with fail
    clear hM1 hx1 hO3
    generalize W1.alloc _ = W2 at *
    go_loopw [7, 8] (fun v7 v8 wr => ∃ (a7 : Option Addr) (c7 : Nat), v7 = .slice a7 16 c7 ∧ v8 = .int .i64 0 ∧ 16 ≤ c7 ∧ Sl wr a7 16 zero16 ∧ Blk wr w.heap.size 89 (pk.map u8v) ∧ Own wr 0 a5 16 c5 (sub1 ks) ∧ Ext w wr) (fun _ v8 _ => 0)
    case atStart => exact ⟨_, _, rfl, rfl, by omega, hV0, hM2, hO5, hx2⟩
    case round =>
      clear hV0 hM2 hx2 hO5
      obtain ⟨a7, c7, rfl, rfl, hc7, hV, hM, hO5, hx⟩ := hrel
      have hcb : Hid (cbc ks b nb = zero16) := Lib.hid (by rw [hnb.out, h0]; rfl)
      have hSr : Sl w a 0 [] := Sl.nil _ _
      have hrd : Hid (b.drop (16 * nb) = []) := Lib.hid (by rw [List.drop_of_length_le (by omega)])
      have hSr1 := hSr.ext hx
      have hvl : (cbc ks b nb).length = 16 := cbc_length _ _ _
      rw [hcb.out] at hvl
      go_wp2_with fail; (with_reducible refine (join_any _ 1 1 [[]] _ (bss1 hSr1 _) (by omega) _ (by rw [joinL1, hSr1.len]) (by omega)).mono ?_); rintro e w9 ⟨a9, c9, rfl, hO9, hx9⟩
      rw [joinL1] at hO9
      replace hx9 := Ext.trans (Ext.of_alloc _ _) hx9
      replace hO9 := hO9.mono (base' := wr.heap.size) (by simp)
      have hsz9 := hx9.size
      clear hSr1
      have hER := Lib.hid (show endR ks [] = xorL (fill []) (sub2 ks) by unfold endR; rw [if_neg (by have := hSr.len; omega), xorL16 _ _ (fill_length [] (by have := hSr.len; omega))])
      have hfl := fill_length [] (by have := hSr.len; omega)
      have hpd := Lib.hid (show [] ++ [128] ++ List.replicate (16 - (0 + 1)) 0 = fill [] by unfold fill; rw [hSr.len, show 16 - (0 + 1) = 15 - 0 by omega])
      have hs2 := Lib.hid (show sub2 ks = tw (sub1 ks) from rfl)
      go_wp2_with (at_builtin; refine wpList_append_by U rfl _ _ rfl wr.heap.size a9 _ c9 _ rfl _ 1 1 _ rfl (hO9.ext (by repeat (first | (with_reducible first | exact Ext.refl _ | assumption | apply Ext.alloc | apply Ext.ext | apply Ext.drew | refine Ext.setCell ?_ ?_ _) | (focus (simp [go_sem]; done))))) (sl_new1 _ 128 _) (by omega) (by simp; omega) ?_; intro sa2 sc2 w2 hOa hg2 hB2)
      (try simp only [Nat.reduceAdd, Nat.zero_add] at hOa)
      have hx2 : Ext wr w2 := Below.trans (b := w9.alloc _) (hx9.alloc _) hB2
      have hM2 := hM.extB hx2
      have hV2 := hV.ext hx2
      have hO52 := hO5.ext hx2
      have hxx2 := hx.trans hx2
      clear hM hV hO5 hx hx9 hO9 hB2 hg2 hx2
      go_wp2_with fail; (with_reducible refine (pad16_any _ _ _ _ _ hOa.sl (by omega) (by omega)).mono ?_); rintro e w3 ⟨a3, c3, rfl, hO3, hx3⟩
      rw [hpd.out] at hO3
      go_wp2_with fail; (with_reducible refine (rdouble_any _ _ _ _ (hO52.sl.ext hx3)).mono ?_); rintro e w4 ⟨a4, c4, rfl, hO4, hx4⟩
      rw [← hs2.out] at hO4
      go_wp2_with fail; (with_reducible refine (rxor_any _ _ 16 c3 16 _ _ _ _ (hO3.sl.ext hx4) hO4.sl (by omega) (by omega)).mono ?_); rintro e w5 ⟨a5', c5', rfl, hO6, hx5⟩
      have hx35 := hx3.trans (hx4.trans hx5)
      have hM6 := hM2.extB hx35
      have hV6 := hV2.ext hx35
      have hx6 := hxx2.trans hx35
      clear hM2 hV2 hO52 hxx2 hx3 hx4 hx5 hO3 hO4 hx35 hOa
      rw [hlst.out] at hlst
      have hEnd := Lib.hid (show mac ks b = enc ks (xorL zero16 (xorL (fill []) (sub2 ks))) by first | rw [hfin.out, xorL16 _ _ hvl, ← hcb.out, hrd.out, hER.out] | rw [hfin.out, xorL16 _ _ hvl, hrd.out, hER.out])
      go_wp2
      refine wp_region_vague 6 [[], [], [], [1, 2], [0, 1, 2, 3], [0, 1, 2, 3, 4]] (by kernel_rfl) (by kernel_rfl) (by kernel_rfl) (by kernel_rfl) ?_; simp only [List.take_succ_cons, List.take_zero, List.drop_succ_cons, List.drop_zero, List.take_nil, List.drop_nil]
      (repeat (apply VD_der; (case h => (intro us w' hx hf; obtain ⟨x, rfl⟩ := hx.out; refine ⟨rfl, ?_⟩; simp [go_sem, execOp, *]; (try simp (disch := omega) only [Go.IntWalk.i64_in, Go.IntWalk.rem_in, Go.IntWalk.wrap64_in]); rfl)); (try simp only [Act.put, List.setIfInBounds_toArray, List.set_cons_succ, List.set_cons_zero])))
      (refine VD_load_arr (R84) _ rfl (fun _ => rfl) (w.heap.size) (0) (fun _ => by simp [go_sem]) (pk.map u8v) (hM6.rd) ((by simpa using hpl)) ?_)
      (repeat (apply VD_der; (case h => (intro us w' hx hf; obtain ⟨x, rfl⟩ := hx.out; refine ⟨rfl, ?_⟩; simp [go_sem, execOp, *]; (try simp (disch := omega) only [Go.IntWalk.i64_in, Go.IntWalk.rem_in, Go.IntWalk.wrap64_in]); rfl)); (try simp only [Act.put, List.setIfInBounds_toArray, List.set_cons_succ, List.set_cons_zero])))
      (refine VD_vag (fun p => .slice (p 0).1 (16) (p 0).2) (fun p w'' => Own w'' 0 (p 0).1 (16) (p 0).2 (xorL zero16 (xorL (fill []) (sub2 ks)))) (fun p w w' h hx => h.ext hx) (fun us w' hx hf => ⟨rfl, ?_⟩) ?_; (unfold gives; simp [go_sem, execOp]; exact vag_fresh (Nat.zero_le _) (rxor_any _ _ 16 c7 16 _ _ _ _ (hV6.ext hx) (hO6.sl.ext hx) (by omega) (by omega))))
      (refine VD_vag (fun p => .slice (p 0).1 (16) (p 0).2) (fun p w'' => Own w'' w.heap.size (p 0).1 (16) (p 0).2 (enc ks (xorL zero16 (xorL (fill []) (sub2 ks))))) (fun p w w' h hx => h.ext hx) (fun us w' hx hf => ⟨rfl, ?_⟩) ?_; (unfold gives; simp [go_sem, execOp]; exact vag_fresh ((hx6.trans hx).size) (renc _ _ _ _ (Own.sl (by exact (hf _ (List.mem_append_right _ (List.mem_singleton_self _)) rfl))) (Own.le (by exact (hf _ (List.mem_append_right _ (List.mem_singleton_self _)) rfl))).1)))
      (repeat (apply VD_der; (case h => (intro us w' hx hf; obtain ⟨x, rfl⟩ := hx.out; refine ⟨rfl, ?_⟩; simp [go_sem, execOp, *]; (try simp (disch := omega) only [Go.IntWalk.i64_in, Go.IntWalk.rem_in, Go.IntWalk.wrap64_in]); rfl)); (try simp only [Act.put, List.setIfInBounds_toArray, List.set_cons_succ, List.set_cons_zero])))
      (refine VD_nil ?_; intro us w' hx hf; obtain ⟨x, rfl⟩ := hx.out; (try simp only [Act.put, List.setIfInBounds_toArray, List.set_cons_succ, List.set_cons_zero, wpList_none]); (try simp only [List.mem_cons, List.not_mem_nil, or_false, forall_eq_or_imp, forall_eq, List.nil_append, List.cons_append, List.mem_append, false_or, true_and, and_true] at hf); (try simp only [Nat.reduceAdd, Nat.zero_add] at hf); (try simp only [Nat.reduceAdd, Nat.zero_add]))
      obtain ⟨-, hO8⟩ := hf
      rw [← hEnd.out] at hO8
      go_wp2
      go_ret
      exact ⟨_, _, rfl, hO8, hx6.trans hx⟩
  · have h0I : ((n : Int) == 0) = false := by rw [beq_eq_false_iff_ne]; omega
    have hq := hq1 (by omega)
    go_wp2_with fail
    clear hM1 hx1 hO3
    generalize W1.alloc _ = W2 at *
    go_loopw [7, 8] (fun v7 v8 wr => ∃ (k : Nat) (a7 : Option Addr) (c7 : Nat), k ≤ nb ∧ v7 = .slice a7 16 c7 ∧ v8 = .int .i64 (16 * (k : Int)) ∧ 16 ≤ c7 ∧ Sl wr a7 16 (cbc ks b k) ∧ Blk wr w.heap.size 89 (pk.map u8v) ∧ Own wr 0 a5 16 c5 (sub1 ks) ∧ Ext w wr) (fun _ v8 _ => lst - (intOf v8).toNat)
    case atStart => exact ⟨0, _, _, Nat.zero_le _, rfl, rfl, by omega, hV0, hM2, hO5, hx2⟩
    case round =>
      clear hV0 hM2 hx2 hO5
      obtain ⟨k, a7, c7, hk, rfl, rfl, hc7, hV, hM, hO5, hx⟩ := hrel
      have hlst' := hlst.out
      by_cases hlt : k < nb
      · have k0 : 16 * (k : Int) < (lst : Int) := by omega
        have k1 : (0 : Int) ≤ 16 * (k : Int) := by omega
        have k2 : 16 * (k : Int) ≤ 16 * (k : Int) + 16 := by omega
        have k3 : 16 * (k : Int) + 16 ≤ (c : Int) := by omega
        have k4 : (16 * (k : Int)).toNat = 16 * k := by omega
        have k5 : (16 * (k : Int) + 16).toNat = 16 * k + 16 := by omega
        have k6 : 16 * k + 16 - 16 * k = 16 := by omega
        have hSp : ∀ W, Ext wr W → Sl W (sAdr a c (16 * k) 1) 16 ((b.drop (16 * k)).take 16) := fun W hW => (((h.ext (hx.trans hW)).drop c (16 * k) hnc).take 16 (by omega))
        have hxw := hx
        have hcb := Lib.hid (show cbc ks b (k + 1) = enc ks (xor16 (cbc ks b k) ((b.drop (16 * k)).take 16)) from rfl)
        have hcl := cbc_length ks b k
        rw [← xorL16 _ _ hcl] at hcb
        generalize cbc ks b k = v at *
        generalize (b.drop (16 * k)).take 16 = bl at *
        go_wp2
        refine wp_region_vague 9 [[], [], [], [], [], [4], [2, 3, 4, 5], [1, 2, 3, 4, 5, 6], [0, 1, 2, 3, 4, 5, 6, 7], [0, 1, 2, 3, 4, 5, 6, 7, 8]] (by kernel_rfl) (by kernel_rfl) (by kernel_rfl) (by kernel_rfl) ?_; simp only [List.take_succ_cons, List.take_zero, List.drop_succ_cons, List.drop_zero, List.take_nil, List.drop_nil]
        (repeat (apply VD_der; (case h => (intro us w' hx hf; obtain ⟨x, rfl⟩ := hx.out; refine ⟨rfl, ?_⟩; simp [go_sem, execOp, *]; (try simp (disch := omega) only [Go.IntWalk.i64_in, Go.IntWalk.rem_in, Go.IntWalk.wrap64_in]); rfl)); (try simp only [Act.put, List.setIfInBounds_toArray, List.set_cons_succ, List.set_cons_zero])))
        (refine VD_load_arr (R84) _ rfl (fun _ => rfl) (w.heap.size) (0) (fun _ => by simp [go_sem]) (pk.map u8v) (hM.rd) ((by simpa using hpl)) ?_)
        (repeat (apply VD_der; (case h => (intro us w' hx hf; obtain ⟨x, rfl⟩ := hx.out; refine ⟨rfl, ?_⟩; simp [go_sem, execOp, *]; (try simp (disch := omega) only [Go.IntWalk.i64_in, Go.IntWalk.rem_in, Go.IntWalk.wrap64_in]); rfl)); (try simp only [Act.put, List.setIfInBounds_toArray, List.set_cons_succ, List.set_cons_zero])))
        (refine VD_vag (fun p => .slice (p 0).1 (16) (p 0).2) (fun p w'' => Own w'' 0 (p 0).1 (16) (p 0).2 (xorL v bl)) (fun p w w' h hx => h.ext hx) (fun us w' hx hf => ⟨rfl, ?_⟩) ?_; (unfold gives; simp [go_sem, execOp]; exact vag_fresh (Nat.zero_le _) (rxor_any _ _ 16 c7 16 _ _ _ _ (hV.ext hx) (hSp _ hx) (by omega) (by omega))))
        (refine VD_vag (fun p => .slice (p 0).1 (16) (p 0).2) (fun p w'' => Own w'' 0 (p 0).1 (16) (p 0).2 (enc ks (xorL v bl))) (fun p w w' h hx => h.ext hx) (fun us w' hx hf => ⟨rfl, ?_⟩) ?_; (unfold gives; simp [go_sem, execOp]; exact vag_fresh (Nat.zero_le _) (renc _ _ _ _ (Own.sl (by exact (hf _ (List.mem_append_right _ (List.mem_singleton_self _)) rfl))) (Own.le (by exact (hf _ (List.mem_append_right _ (List.mem_singleton_self _)) rfl))).1)))
        (refine VD_nil ?_; intro us w' hx hf; obtain ⟨x, rfl⟩ := hx.out; (try simp only [Act.put, List.setIfInBounds_toArray, List.set_cons_succ, List.set_cons_zero, wpList_none]); (try simp only [List.mem_cons, List.not_mem_nil, or_false, forall_eq_or_imp, forall_eq, List.nil_append, List.cons_append, List.mem_append, false_or, true_and, and_true] at hf); (try simp only [Nat.reduceAdd, Nat.zero_add] at hf); (try simp only [Nat.reduceAdd, Nat.zero_add]))
        obtain ⟨-, hO8⟩ := hf
        rw [← hcb.out] at hO8
        have hle8 := hO8.le
        generalize (us 8 0).1 = a8 at *
        generalize (us 8 0).2 = c8 at *
        generalize us 7 = u7 at *
        have hM2 := hM.extB hx
        have hx2 := hxw.trans hx
        have hO52 := hO5.ext hx
        clear hM hO5 hV hSp hx
        generalize wr.ext x = W3 at *
        go_wp2_with fail
        go_roundw
        case rel => exact ⟨k + 1, a8, c8, by omega, rfl, by go_num, hle8.1, hO8.sl, hM2, hO52, hx2⟩
        case measure => simp [intOf]; omega
      · obtain rfl : nb = k := by omega
        have hk0 : ¬ 16 * (nb : Int) < (lst : Int) := by omega
        have hSr := hsc
        rw [hlst.out] at hSr
        have hrd : Hid (b.drop (16 * nb) = b.drop (16 * nb)) := Lib.hid rfl
        have hmm : n - 16 * nb ≤ 16 := by have := hnb.out; omega
        generalize hgr : b.drop (16 * nb) = r at hSr hrd
        have hcb : Hid (cbc ks b nb = cbc ks b nb) := Lib.hid rfl
        replace hrd : Hid (b.drop (16 * nb) = r) := Lib.hid hgr
        clear hgr
        generalize hgm : n - 16 * nb = m at *
        have hSr1 := hSr.ext hx
        have hvl : (cbc ks b nb).length = 16 := cbc_length _ _ _
        rw [hcb.out] at hvl
        go_wp2_with fail; (with_reducible refine (join_any _ 1 1 [r] _ (bss1 hSr1 _) (by omega) _ (by rw [joinL1, hSr1.len]) (by omega)).mono ?_); rintro e w9 ⟨a9, c9, rfl, hO9, hx9⟩
        rw [joinL1] at hO9
        replace hx9 := Ext.trans (Ext.of_alloc _ _) hx9
        replace hO9 := hO9.mono (base' := wr.heap.size) (by simp)
        have hsz9 := hx9.size
        clear hSr1
        by_cases h16 : m = 16
        · subst h16
          have hrl : r.length = 16 := hSr.len
          have hER := Lib.hid (show endR ks r = xorL r (sub1 ks) by unfold endR; rw [if_pos hrl, xorL16 _ _ hrl])
          have hO59 := hO5.ext hx9
          go_wp2_with fail; (with_reducible refine (rxor_any _ _ 16 c9 16 _ _ _ _ hO9.sl hO59.sl (by omega) (by omega)).mono ?_); rintro e w5 ⟨a5', c5', rfl, hO6, hx5⟩
          have hM6 := (hM.extB hx9).extB hx5
          have hV6 := (hV.ext hx9).ext hx5
          have hx6 := hx.trans (hx9.trans hx5)
          clear hM hV hO5 hx hx9 hx5 hO59 hO9
          rw [hlst.out] at hlst
          have hEnd := Lib.hid (show mac ks b = enc ks (xorL (cbc ks b nb) (xorL r (sub1 ks))) by first | rw [hfin.out, xorL16 _ _ hvl, ← hcb.out, hrd.out, hER.out] | rw [hfin.out, xorL16 _ _ hvl, hrd.out, hER.out])
          go_wp2
          refine wp_region_vague 6 [[], [], [], [1, 2], [0, 1, 2, 3], [0, 1, 2, 3, 4]] (by kernel_rfl) (by kernel_rfl) (by kernel_rfl) (by kernel_rfl) ?_; simp only [List.take_succ_cons, List.take_zero, List.drop_succ_cons, List.drop_zero, List.take_nil, List.drop_nil]
          (repeat (apply VD_der; (case h => (intro us w' hx hf; obtain ⟨x, rfl⟩ := hx.out; refine ⟨rfl, ?_⟩; simp [go_sem, execOp, *]; (try simp (disch := omega) only [Go.IntWalk.i64_in, Go.IntWalk.rem_in, Go.IntWalk.wrap64_in]); rfl)); (try simp only [Act.put, List.setIfInBounds_toArray, List.set_cons_succ, List.set_cons_zero])))
          (refine VD_load_arr (R84) _ rfl (fun _ => rfl) (w.heap.size) (0) (fun _ => by simp [go_sem]) (pk.map u8v) (hM6.rd) ((by simpa using hpl)) ?_)
          (repeat (apply VD_der; (case h => (intro us w' hx hf; obtain ⟨x, rfl⟩ := hx.out; refine ⟨rfl, ?_⟩; simp [go_sem, execOp, *]; (try simp (disch := omega) only [Go.IntWalk.i64_in, Go.IntWalk.rem_in, Go.IntWalk.wrap64_in]); rfl)); (try simp only [Act.put, List.setIfInBounds_toArray, List.set_cons_succ, List.set_cons_zero])))
          (refine VD_vag (fun p => .slice (p 0).1 (16) (p 0).2) (fun p w'' => Own w'' 0 (p 0).1 (16) (p 0).2 (xorL (cbc ks b nb) (xorL r (sub1 ks)))) (fun p w w' h hx => h.ext hx) (fun us w' hx hf => ⟨rfl, ?_⟩) ?_; (unfold gives; simp [go_sem, execOp]; exact vag_fresh (Nat.zero_le _) (rxor_any _ _ 16 c7 16 _ _ _ _ (hV6.ext hx) (hO6.sl.ext hx) (by omega) (by omega))))
          (refine VD_vag (fun p => .slice (p 0).1 (16) (p 0).2) (fun p w'' => Own w'' w.heap.size (p 0).1 (16) (p 0).2 (enc ks (xorL (cbc ks b nb) (xorL r (sub1 ks))))) (fun p w w' h hx => h.ext hx) (fun us w' hx hf => ⟨rfl, ?_⟩) ?_; (unfold gives; simp [go_sem, execOp]; exact vag_fresh ((hx6.trans hx).size) (renc _ _ _ _ (Own.sl (by exact (hf _ (List.mem_append_right _ (List.mem_singleton_self _)) rfl))) (Own.le (by exact (hf _ (List.mem_append_right _ (List.mem_singleton_self _)) rfl))).1)))
          (repeat (apply VD_der; (case h => (intro us w' hx hf; obtain ⟨x, rfl⟩ := hx.out; refine ⟨rfl, ?_⟩; simp [go_sem, execOp, *]; (try simp (disch := omega) only [Go.IntWalk.i64_in, Go.IntWalk.rem_in, Go.IntWalk.wrap64_in]); rfl)); (try simp only [Act.put, List.setIfInBounds_toArray, List.set_cons_succ, List.set_cons_zero])))
          (refine VD_nil ?_; intro us w' hx hf; obtain ⟨x, rfl⟩ := hx.out; (try simp only [Act.put, List.setIfInBounds_toArray, List.set_cons_succ, List.set_cons_zero, wpList_none]); (try simp only [List.mem_cons, List.not_mem_nil, or_false, forall_eq_or_imp, forall_eq, List.nil_append, List.cons_append, List.mem_append, false_or, true_and, and_true] at hf); (try simp only [Nat.reduceAdd, Nat.zero_add] at hf); (try simp only [Nat.reduceAdd, Nat.zero_add]))
          obtain ⟨-, hO8⟩ := hf
          rw [← hEnd.out] at hO8
          go_wp2
          go_ret
          exact ⟨_, _, rfl, hO8, hx6.trans hx⟩
        · have hm16 : ((m : Int) == 16) = false := by rw [beq_eq_false_iff_ne]; omega
          have hm15 : m < 16 := by omega
          have hER := Lib.hid (show endR ks r = xorL (fill r) (sub2 ks) by unfold endR; rw [if_neg (by have := hSr.len; omega), xorL16 _ _ (fill_length r (by have := hSr.len; omega))])
          have hfl := fill_length r (by have := hSr.len; omega)
          have hpd := Lib.hid (show r ++ [128] ++ List.replicate (16 - (m + 1)) 0 = fill r by unfold fill; rw [hSr.len, show 16 - (m + 1) = 15 - m by omega])
          have hs2 := Lib.hid (show sub2 ks = tw (sub1 ks) from rfl)
          go_wp2_with (at_builtin; refine wpList_append_by U rfl _ _ rfl wr.heap.size a9 _ c9 _ rfl _ 1 1 _ rfl (hO9.ext (by repeat (first | (with_reducible first | exact Ext.refl _ | assumption | apply Ext.alloc | apply Ext.ext | apply Ext.drew | refine Ext.setCell ?_ ?_ _) | (focus (simp [go_sem]; done))))) (sl_new1 _ 128 _) (by omega) (by simp; omega) ?_; intro sa2 sc2 w2 hOa hg2 hB2)
          (try simp only [Nat.reduceAdd, Nat.zero_add] at hOa)
          have hx2 : Ext wr w2 := Below.trans (b := w9.alloc _) (hx9.alloc _) hB2
          have hM2 := hM.extB hx2
          have hV2 := hV.ext hx2
          have hO52 := hO5.ext hx2
          have hxx2 := hx.trans hx2
          clear hM hV hO5 hx hx9 hO9 hB2 hg2 hx2
          go_wp2_with fail; (with_reducible refine (pad16_any _ _ _ _ _ hOa.sl (by omega) (by omega)).mono ?_); rintro e w3 ⟨a3, c3, rfl, hO3, hx3⟩
          rw [hpd.out] at hO3
          go_wp2_with fail; (with_reducible refine (rdouble_any _ _ _ _ (hO52.sl.ext hx3)).mono ?_); rintro e w4 ⟨a4, c4, rfl, hO4, hx4⟩
          rw [← hs2.out] at hO4
          go_wp2_with fail; (with_reducible refine (rxor_any _ _ 16 c3 16 _ _ _ _ (hO3.sl.ext hx4) hO4.sl (by omega) (by omega)).mono ?_); rintro e w5 ⟨a5', c5', rfl, hO6, hx5⟩
          have hx35 := hx3.trans (hx4.trans hx5)
          have hM6 := hM2.extB hx35
          have hV6 := hV2.ext hx35
          have hx6 := hxx2.trans hx35
          clear hM2 hV2 hO52 hxx2 hx3 hx4 hx5 hO3 hO4 hx35 hOa
          rw [hlst.out] at hlst
          have hEnd := Lib.hid (show mac ks b = enc ks (xorL (cbc ks b nb) (xorL (fill r) (sub2 ks))) by first | rw [hfin.out, xorL16 _ _ hvl, ← hcb.out, hrd.out, hER.out] | rw [hfin.out, xorL16 _ _ hvl, hrd.out, hER.out])
          go_wp2
          refine wp_region_vague 6 [[], [], [], [1, 2], [0, 1, 2, 3], [0, 1, 2, 3, 4]] (by kernel_rfl) (by kernel_rfl) (by kernel_rfl) (by kernel_rfl) ?_; simp only [List.take_succ_cons, List.take_zero, List.drop_succ_cons, List.drop_zero, List.take_nil, List.drop_nil]
          (repeat (apply VD_der; (case h => (intro us w' hx hf; obtain ⟨x, rfl⟩ := hx.out; refine ⟨rfl, ?_⟩; simp [go_sem, execOp, *]; (try simp (disch := omega) only [Go.IntWalk.i64_in, Go.IntWalk.rem_in, Go.IntWalk.wrap64_in]); rfl)); (try simp only [Act.put, List.setIfInBounds_toArray, List.set_cons_succ, List.set_cons_zero])))
          (refine VD_load_arr (R84) _ rfl (fun _ => rfl) (w.heap.size) (0) (fun _ => by simp [go_sem]) (pk.map u8v) (hM6.rd) ((by simpa using hpl)) ?_)
          (repeat (apply VD_der; (case h => (intro us w' hx hf; obtain ⟨x, rfl⟩ := hx.out; refine ⟨rfl, ?_⟩; simp [go_sem, execOp, *]; (try simp (disch := omega) only [Go.IntWalk.i64_in, Go.IntWalk.rem_in, Go.IntWalk.wrap64_in]); rfl)); (try simp only [Act.put, List.setIfInBounds_toArray, List.set_cons_succ, List.set_cons_zero])))
          (refine VD_vag (fun p => .slice (p 0).1 (16) (p 0).2) (fun p w'' => Own w'' 0 (p 0).1 (16) (p 0).2 (xorL (cbc ks b nb) (xorL (fill r) (sub2 ks)))) (fun p w w' h hx => h.ext hx) (fun us w' hx hf => ⟨rfl, ?_⟩) ?_; (unfold gives; simp [go_sem, execOp]; exact vag_fresh (Nat.zero_le _) (rxor_any _ _ 16 c7 16 _ _ _ _ (hV6.ext hx) (hO6.sl.ext hx) (by omega) (by omega))))
          (refine VD_vag (fun p => .slice (p 0).1 (16) (p 0).2) (fun p w'' => Own w'' w.heap.size (p 0).1 (16) (p 0).2 (enc ks (xorL (cbc ks b nb) (xorL (fill r) (sub2 ks))))) (fun p w w' h hx => h.ext hx) (fun us w' hx hf => ⟨rfl, ?_⟩) ?_; (unfold gives; simp [go_sem, execOp]; exact vag_fresh ((hx6.trans hx).size) (renc _ _ _ _ (Own.sl (by exact (hf _ (List.mem_append_right _ (List.mem_singleton_self _)) rfl))) (Own.le (by exact (hf _ (List.mem_append_right _ (List.mem_singleton_self _)) rfl))).1)))
          (repeat (apply VD_der; (case h => (intro us w' hx hf; obtain ⟨x, rfl⟩ := hx.out; refine ⟨rfl, ?_⟩; simp [go_sem, execOp, *]; (try simp (disch := omega) only [Go.IntWalk.i64_in, Go.IntWalk.rem_in, Go.IntWalk.wrap64_in]); rfl)); (try simp only [Act.put, List.setIfInBounds_toArray, List.set_cons_succ, List.set_cons_zero])))
          (refine VD_nil ?_; intro us w' hx hf; obtain ⟨x, rfl⟩ := hx.out; (try simp only [Act.put, List.setIfInBounds_toArray, List.set_cons_succ, List.set_cons_zero, wpList_none]); (try simp only [List.mem_cons, List.not_mem_nil, or_false, forall_eq_or_imp, forall_eq, List.nil_append, List.cons_append, List.mem_append, false_or, true_and, and_true] at hf); (try simp only [Nat.reduceAdd, Nat.zero_add] at hf); (try simp only [Nat.reduceAdd, Nat.zero_add]))
          obtain ⟨-, hO8⟩ := hf
          rw [← hEnd.out] at hO8
          go_wp2
          go_ret
          exact ⟨_, _, rfl, hO8, hx6.trans hx⟩
end Go.Proofs.YtbfgeokngekdmaaGreat

/- CmacDoubles: Subkeys, and the law's walk. -/
namespace Go.Proofs.YtbfgeokngekdmaaGreat
open Go.RowKit Go.Sec Go.Oct Go.Aes Go.Sha BigFrame

theorem kc_rd1 {w : World} {g c : Nat} {T : TypeId} {k1 k2 : List UInt8} (h1 : k1.length = 16) (hB : Blk w g T (kc c k1 k2)) : Sl w (some ⟨g, 1, none⟩) 16 k1 := by
  refine ⟨h1, ?_⟩
  have := (hB.rdAt 1).head 16
  simpa [kc, h1] using this
theorem kc_rd2 {w : World} {g c : Nat} {T : TypeId} {k1 k2 : List UInt8} (h1 : k1.length = 16) (h2 : k2.length = 16) (hB : Blk w g T (kc c k1 k2)) : Sl w (some ⟨g, 17, none⟩) 16 k2 := by
  refine ⟨h2, ?_⟩
  have := hB.rdAt 17
  have e : (kc c k1 k2).drop 17 = k2.map u8v := by
    unfold kc
    rw [List.drop_succ_cons, List.map_append, List.drop_append_of_le_length (by simp [h1]), List.drop_of_length_le (by simp [h1])]
    rfl
  rwa [e] at this

theorem mk16 (W : World) : (Instr.makeSlice 27 (.int .i64 16) (.int .i64 16)).run Tryz.prog W = .ok (.slice (some ⟨W.heap.size, 0, none⟩) 16 16) (W.alloc (.cells (zerosOf (.int .u8 0) 16) 5)) := run_make_by U 16 16 (Nat.le_refl _) (by omega) W
theorem mk16_sl (W : World) : Sl (W.alloc (.cells (zerosOf (.int .u8 0) 16) 5)) (some ⟨W.heap.size, 0, none⟩) 16 zero16 := (blk_zeros8 W 16).sl rfl
end Go.Proofs.YtbfgeokngekdmaaGreat

/- The walks of the program's SHA-256: all blocks, the end, the whole. -/
namespace Go.Sec
open Go.RowKit Go.Sha Go.Oct
/-- Bytes stay as they are where a block of other things turns. -/
theorem Sl.mut {w w' : World} {g n : Nat} {a : Option Addr} {l : List UInt8} {t : TypeId} {vs : List Value} (h : Sl w a n l) (hB : Blk w g t vs) (hv : ∀ v ∈ vs, ∀ x, v ≠ .int .u8 x) (hM : Mut g w w') : Sl w' a n l := by
  refine ⟨h.len, ?_⟩
  rcases h.by' with h0 | ⟨b, off, rfl, hb, hc⟩
  · exact .inl h0
  · by_cases hl : l.map u8v = []
    · exact .inl hl
    · refine Rd.turn hM (.inr ⟨b, off, rfl, hb, hc⟩) (fun e => ?_)
      subst e
      obtain ⟨v, hv0⟩ : ∃ v, (l.map u8v)[0]? = some v := by
        cases hm : l.map u8v with
        | nil => exact absurd hm hl
        | cons v r => exact ⟨v, rfl⟩
      have h2 := hc 0 v hv0
      rw [cell_of_row w _ _ _ t (0, 0) hB] at h2
      have hm := List.mem_of_getElem? (show vs[off + 0]? = some v by simpa using h2)
      obtain ⟨x, _, rfl⟩ := List.mem_map.1 (List.mem_of_getElem? hv0)
      exact hv _ hm _ rfl
theorem no_u8 (l : List UInt32) : ∀ v ∈ l.map u32v, ∀ x, v ≠ .int .u8 x := by
  intro v hv x e
  obtain ⟨y, _, rfl⟩ := List.mem_map.1 hv
  cases e
theorem sl_new4 (w : World) (x y z u : UInt8) (t : TypeId) : Sl (w.alloc (.cells #[.int .u8 (n8 x), .int .u8 (n8 y), .int .u8 (n8 z), .int .u8 (n8 u)] t)) (some ⟨w.heap.size, 0, none⟩) 4 [x, y, z, u] := ⟨rfl, (Blk.new w #[.int .u8 (n8 x), .int .u8 (n8 y), .int .u8 (n8 z), .int .u8 (n8 u)] t).rd⟩
@[go_sem] theorem wrap8_n32 (x : UInt32) : IntKind.u8.wrap (n32 x) = n8 x.toUInt8 := by
  unfold n8 n32; rw [IntKind.wrap_u8, UInt32.toNat_toUInt8]; omega
theorem fin_tail (rest p : List UInt8) (nr OF : Nat) (hrl : rest.length = nr) (h1 : nr + 1 ≤ OF) (h2 : OF + 8 ≤ 128) (hp : p.length = 8) :
    ((rest ++ [128] ++ List.replicate (127 - nr) 0).map u8v).take OF ++ (p.take 8).map u8v ++ ((rest ++ [128] ++ List.replicate (127 - nr) 0).map u8v).drop (OF + 8) = ((rest ++ [128] ++ List.replicate (OF - 1 - nr) 0 ++ p) ++ List.replicate (120 - OF) 0).map u8v := by
  have hl : (rest ++ [128]).length = nr + 1 := by simp [hrl]
  rw [← List.map_take, ← List.map_drop, ← List.map_append, ← List.map_append, List.take_of_length_le (l := p) (by omega)]
  rw [List.take_append, List.drop_append, hl, List.take_of_length_le (l := rest ++ [128]) (by omega), List.drop_of_length_le (l := rest ++ [128]) (by omega), List.take_replicate, List.drop_replicate, List.nil_append, show min (OF - (nr + 1)) (127 - nr) = OF - 1 - nr by omega, show 127 - nr - (OF + 8 - (nr + 1)) = 120 - OF by omega]
theorem own_made (w : World) (c : Nat) (hc : c ≤ maxLen) : Own (w.alloc (.cells (zerosOf (.int .u8 0) c) 5)) w.heap.size (some ⟨w.heap.size, 0, none⟩) 0 c [] := by
  refine ⟨rfl, ?_⟩
  have := (blk_zeros8 w c).own (Nat.le_refl _) 0 (Nat.zero_le _) (by simpa using hc)
  simpa using this
end Go.Sec
namespace Go.Sha
open Go.Oct
theorem shr_u8 (x : UInt32) (k : Nat) (hk : k < 32) : (x >>> UInt32.ofNat k).toUInt8.toNat = x.toNat / 2 ^ k % 256 := by
  rw [UInt32.toNat_toUInt8, UInt32.toNat_shiftRight, UInt32.toNat_ofNat', Nat.mod_eq_of_lt (show k < 2 ^ 32 by omega), Nat.mod_eq_of_lt hk, Nat.shiftRight_eq_div_pow]
theorem shr8n (v : UInt64) : (v >>> 8).toNat = v.toNat / 256 := by
  rw [UInt64.toNat_shiftRight, Nat.shiftRight_eq_div_pow]; rfl
theorem put4_eq (x : UInt32) : putL 4 x.toUInt64 = [(x >>> 24).toUInt8, (x >>> 16).toUInt8, (x >>> 8).toUInt8, x.toUInt8] := by
  have e : putL 4 x.toUInt64 = [(x.toUInt64 >>> 8 >>> 8 >>> 8).toUInt8, (x.toUInt64 >>> 8 >>> 8).toUInt8, (x.toUInt64 >>> 8).toUInt8, x.toUInt64.toUInt8] := rfl
  rw [e]
  have h1 := shr_u8 x 24 (by omega)
  have h2 := shr_u8 x 16 (by omega)
  have h3 := shr_u8 x 8 (by omega)
  have e1 : (x.toUInt64 >>> 8 >>> 8 >>> 8).toUInt8 = (x >>> 24).toUInt8 := by
    apply UInt8.toNat_inj.1
    rw [show (x >>> 24 : UInt32) = x >>> UInt32.ofNat 24 from rfl, h1, UInt64.toNat_toUInt8, shr8n, shr8n, shr8n, UInt32.toNat_toUInt64]; omega
  have e2 : (x.toUInt64 >>> 8 >>> 8).toUInt8 = (x >>> 16).toUInt8 := by
    apply UInt8.toNat_inj.1
    rw [show (x >>> 16 : UInt32) = x >>> UInt32.ofNat 16 from rfl, h2, UInt64.toNat_toUInt8, shr8n, shr8n, UInt32.toNat_toUInt64]; omega
  have e3 : (x.toUInt64 >>> 8).toUInt8 = (x >>> 8).toUInt8 := by
    apply UInt8.toNat_inj.1
    rw [show (x >>> 8 : UInt32) = x >>> UInt32.ofNat 8 from rfl, h3, UInt64.toNat_toUInt8, shr8n, UInt32.toNat_toUInt64]
  have e4 : x.toUInt64.toUInt8 = x.toUInt8 := by
    apply UInt8.toNat_inj.1
    rw [UInt64.toNat_toUInt8, UInt32.toNat_toUInt8, UInt32.toNat_toUInt64]
  rw [e1, e2, e3, e4]
theorem blocks_length (h : List UInt32) (hl : h.length = 8) (b : List UInt8) (n : Nat) : (blocks h b n).length = 8 := by
  cases n with
  | zero => exact hl
  | succ n => simp [blocks, block]
end Go.Sha
namespace Go.Proofs.YtbfgeokngekdmaaGreat
open Go.RowKit Go.Sec Go.Oct Go.Sha BigFrame

set_option maxRecDepth 100000 in
set_option maxHeartbeats 4000000 in
theorem whole_any (g : Nat) (a : Option Addr) (n c : Nat) (T : TypeId) (h : List UInt32) (b : List UInt8) (w : World) (HB : Blk w g T (h.map u32v)) (hhl : h.length = 8) (Hb : Sl w a n b) (hnc : n ≤ c) (hn : n ≤ 1000000) (nb m : Nat) (hm : n = 64 * nb + m) (hm2 : m < 64) :
    Calls Tryz.prog 99 #[.pointer (some ⟨g, 0, none⟩), .slice a n c] w fun e w' => ∃ a' c', e = .returned (.slice a' m c') ∧ m ≤ c' ∧ Sl w' a' m (b.drop (64 * nb)) ∧ Blk w' g T ((blocks h b nb).map u32v) ∧ Mut g w w' := by
  have hmH := Lib.hid hm
  clear hm
  go_enter Tryz.func99, Tryz.ntmps99
  go_wp2_with fail
  refine (hconsts_any _).mono ?_
  rintro e w1 ⟨gk, rfl, hgk, Hk, hx1⟩
  have hgl := HB.lt
  have HB1 := HB.extB hx1
  have Hb1 := Hb.ext hx1
  go_wp2_with fail
  go_loopw [1] (fun v1 wr => ∃ (k r : Nat) (a' : Option Addr) (c' : Nat), k ≤ nb ∧ n = 64 * k + r ∧ v1 = .slice a' r c' ∧ r ≤ c' ∧ Sl wr a' r (b.drop (64 * k)) ∧ Blk wr gk 80 (ks.map u32v) ∧ Blk wr g T ((blocks h b k).map u32v) ∧ Mut g w1 wr) (fun v1 _ => match v1 with | .slice _ r _ => r | _ => 0)
  case atStart => exact ⟨0, n, a, c, by omega, by omega, rfl, hnc, by simpa using Hb1, Hk, HB1, Mut.refl _ _⟩
  case round =>
    obtain ⟨k, r, a', c', hk, hr, rfl, hrc, HS, HK, HBr, hM⟩ := hrel
    have hm := hmH.out
    by_cases hlt : k < nb
    · have hr64 : 64 ≤ r := by omega
      clear hm
      have HBk := Lib.hid (show blocks h b (k + 1) = block (blocks h b k) ((b.drop (64 * k)).take 64) from rfl)
      have hbl := blocks_length h hhl b k
      generalize blocks h b k = hs at *
      have hr0 : (64 : Int) ≤ (r : Int) := by omega
      have hc0 : (64 : Int) ≤ (c' : Int) := by omega
      go_wp2_with fail
      (with_reducible refine (hblock_any g gk _ _ T _ hs _ _ HBr hbl HK (by omega) (HS.take 64 hr64)).mono ?_)
      rintro e w2 ⟨rfl, HB2, hM2⟩
      have HK2 : Blk w2 gk 80 (ks.map u32v) := Blk.turn hM2 HK (by omega)
      have HS2 := Sl.mut HS HBr (no_u8 _) hM2
      go_wp2
      go_roundw
      case rel =>
        refine ⟨k + 1, r - 64, sAdr a' c' 64 1, c' - 64, by omega, by omega, by go_num, by omega, ?_, HK2, by rw [HBk.out]; exact HB2, hM.trans hM2⟩
        have := HS2.drop c' 64 hrc
        rwa [List.drop_drop] at this
      case measure => show r - 64 < r; omega
    · obtain rfl : k = nb := by omega
      obtain rfl : r = m := by omega
      clear hm hmH
      have hr0 : ¬ (64 : Int) ≤ (r : Int) := by omega
      go_wp2
      go_ret
      exact ⟨_, _, rfl, hrc, HS, HBr, (Mut.of_ext hx1).trans hM⟩

theorem tailB_lt (rest : List UInt8) (count : Nat) (h : rest.length + 9 ≤ 64) : tailB rest count = rest ++ [128] ++ List.replicate (55 - rest.length) 0 ++ putL 8 (UInt64.ofNat (count * 8)) := by
  unfold tailB
  rw [show tailN rest.length = 55 - rest.length by unfold tailN; omega]
theorem tailB_ge (rest : List UInt8) (count : Nat) (h : 64 < rest.length + 9) (h2 : rest.length < 64) : tailB rest count = rest ++ [128] ++ List.replicate (119 - rest.length) 0 ++ putL 8 (UInt64.ofNat (count * 8)) := by
  unfold tailB
  rw [show tailN rest.length = 119 - rest.length by unfold tailN; omega]

theorem hidx0 (y0 y1 y2 y3 y4 y5 y6 y7 : Value) (W : World) : (Instr.index 120 (.agg #[y0, y1, y2, y3, y4, y5, y6, y7]) (.int .i64 0)).run Tryz.prog W = .ok y0 W := by kernel_rfl
theorem hidx1 (y0 y1 y2 y3 y4 y5 y6 y7 : Value) (W : World) : (Instr.index 120 (.agg #[y0, y1, y2, y3, y4, y5, y6, y7]) (.int .i64 1)).run Tryz.prog W = .ok y1 W := by kernel_rfl
theorem hidx2 (y0 y1 y2 y3 y4 y5 y6 y7 : Value) (W : World) : (Instr.index 120 (.agg #[y0, y1, y2, y3, y4, y5, y6, y7]) (.int .i64 2)).run Tryz.prog W = .ok y2 W := by kernel_rfl
theorem hidx3 (y0 y1 y2 y3 y4 y5 y6 y7 : Value) (W : World) : (Instr.index 120 (.agg #[y0, y1, y2, y3, y4, y5, y6, y7]) (.int .i64 3)).run Tryz.prog W = .ok y3 W := by kernel_rfl
theorem hidx4 (y0 y1 y2 y3 y4 y5 y6 y7 : Value) (W : World) : (Instr.index 120 (.agg #[y0, y1, y2, y3, y4, y5, y6, y7]) (.int .i64 4)).run Tryz.prog W = .ok y4 W := by kernel_rfl
theorem hidx5 (y0 y1 y2 y3 y4 y5 y6 y7 : Value) (W : World) : (Instr.index 120 (.agg #[y0, y1, y2, y3, y4, y5, y6, y7]) (.int .i64 5)).run Tryz.prog W = .ok y5 W := by kernel_rfl
theorem hidx6 (y0 y1 y2 y3 y4 y5 y6 y7 : Value) (W : World) : (Instr.index 120 (.agg #[y0, y1, y2, y3, y4, y5, y6, y7]) (.int .i64 6)).run Tryz.prog W = .ok y6 W := by kernel_rfl
theorem hidx7 (y0 y1 y2 y3 y4 y5 y6 y7 : Value) (W : World) : (Instr.index 120 (.agg #[y0, y1, y2, y3, y4, y5, y6, y7]) (.int .i64 7)).run Tryz.prog W = .ok y7 W := by kernel_rfl
theorem fin_copied {w W1 w2 : World} {ge gw nr : Nat} {T TW : TypeId} {A vs : List Value} {rest : List UInt8} (hB2 : Blk w2 ge T A) (e : A = (rest ++ List.replicate (128 - nr) (0 : UInt8)).map u8v) (hrl : rest.length = nr) (hn : nr < 64) (hM2 : Mut ge W1 w2)
    (hR : Blk W1 gw TW vs) (hne : gw ≠ ge) (hE : Ext w W1) (hle : w.heap.size ≤ ge) :
    Blk w2 ge T ((rest ++ List.replicate (128 - nr) (0 : UInt8)).map u8v) ∧ Blk w2 gw TW vs ∧ Ext w w2 ∧ w2.cell? ⟨ge, nr, none⟩ = some (.int .u8 (n8 0)) ∧ w2.frozen? ⟨ge, nr, none⟩ = false ∧ BlkLt ge w2 ∧ BlkLt gw w2 := by
  rw [e] at hB2
  have hR2 := Blk.turn hM2 hR hne
  refine ⟨hB2, hR2, Below.trans hE (hM2.below hle hE.size), ?_, hB2.free nr, hB2.blt, hR2.blt⟩
  refine hB2.cell? nr ?_
  rw [List.map_append, List.getElem?_append_right (by simp; omega), List.length_map, hrl, Nat.sub_self, List.map_replicate, List.getElem?_replicate, if_pos (by omega)]
set_option maxRecDepth 100000 in
set_option maxHeartbeats 8000000 in
theorem hfinish_any (ar : Option Addr) (nr cr count : Nat) (h : List UInt32) (rest : List UInt8) (w : World) (hhl : h.length = 8) (Hr : Sl w ar nr rest) (hn : nr < 64) (hc : count ≤ 1152921504606846976) :
    Calls Tryz.prog 100 #[.agg (h.map u32v).toArray, .slice ar nr cr, .int .i64 count] w (Fresh 32 (fin h rest count) w) := by
  have hc8 := Lib.hid (count8 count hc)
  have hw1 : IntKind.u64.wrap (count : Int) = (count : Int) := by rw [IntKind.wrap_u64]; omega
  have hw2 : IntKind.u64.wrap ((count : Int) * 8) = (count : Int) * 8 := by rw [IntKind.wrap_u64]; omega
  have hrl := Hr.len
  obtain ⟨a0, a1, a2, a3, a4, a5, a6, a7, rfl⟩ := list8 h hhl
  have har := fun W a len cap => run_arrayAt (P := Tryz.prog) W 126 5 128 a len cap Tryz.underlying126
  have hal : Tryz.prog.arrayLen 126 = 128 := by kernel_rfl
  show Calls _ _ #[.agg #[u32v a0, u32v a1, u32v a2, u32v a3, u32v a4, u32v a5, u32v a6, u32v a7], _, _] _ _
  have hmk := fun W => run_make_by U 0 32 (by omega) (by omega) W
  simp only [Int.cast_ofNat_Int] at hmk
  have HZ := Lib.hid (show Tryz.zeroCells126.toList = (List.replicate 128 (0 : UInt8)).map u8v by kernel_rfl)
  have HZl := Lib.hid (show Tryz.zeroCells126.toList.length = 128 by kernel_rfl)
  obtain ⟨hs0, hh8⟩ : ∃ l, Hid (l = [a0, a1, a2, a3, a4, a5, a6, a7]) := ⟨_, Lib.hid rfl⟩
  have hh0 : hs0.length = 8 := by rw [hh8.out]; rfl
  rw [← hh8.out]
  clear hhl
  have HCP := Lib.hid (show Tryz.zeroCells126.toList.take 0 ++ (rest.take nr).map u8v ++ Tryz.zeroCells126.toList.drop (0 + nr) = (rest ++ List.replicate (128 - nr) (0 : UInt8)).map u8v by
    rw [HZ.out, List.take_zero, List.nil_append, List.take_of_length_le (l := rest) (by omega), Nat.zero_add, ← List.map_drop, List.drop_replicate, ← List.map_append])
  clear HZ
  by_cases hbig : 64 < nr + 9
  · have hI : (64 : Int) < (nr : Int) + 9 := by omega
    have HT := Lib.hid (tailB_ge rest count (by omega) (by omega))
    rw [hrl] at HT
    go_enter Tryz.func100, Tryz.ntmps100
    go_wp2_with (first
      | ((refine wpList_copy_blk rfl (.tmp 13) (.tmp 14) _ _ rfl 5 Tryz.underlying27 (by kernel_rfl) (w.heap.size + 1) (0) _ _ _ _ _ (rest) rfl rfl (126) _ ((Blk.newAt _ _ _ _ (by simp))) ((Hr.ext (by repeat (first | (with_reducible first | exact Ext.refl _ | assumption | apply Ext.alloc | apply Ext.ext | apply Ext.drew | refine Ext.setCell ?_ ?_ _) | (focus (simp [go_sem]; done)))))) (nr) (by omega) ((by rw [HZl.out]; omega)) ?_; intro w2 hB2 hM2); obtain ⟨hB3, hR2, hE2, hcl, hfr, _, _⟩ := fin_copied hB2 HCP.out hrl hn hM2 (gw := w.heap.size) (TW := 120) (vs := hs0.map u32v) (by rw [hh8.out]; exact (Blk.new _ _ _).alloc _) (by omega) (w := w) (by repeat (first | (with_reducible first | exact Ext.refl _ | assumption | apply Ext.alloc | apply Ext.ext | apply Ext.drew | refine Ext.setCell ?_ ?_ _) | (focus (simp [go_sem]; done)))) (by omega); clear hB2 hM2)
      | fail)
    have hB4 : Blk (w2.setCell ⟨w.heap.size + 1, nr, none⟩ (.int .u8 128)) (w.heap.size + 1) 126 ((rest ++ [128] ++ List.replicate (127 - nr) (0 : UInt8)).map u8v) := by
      have := hB3.set nr (u8v 128)
      rw [← List.map_set] at this
      have e : (rest ++ List.replicate (128 - nr) (0 : UInt8)).set nr 128 = rest ++ [128] ++ List.replicate (127 - nr) (0 : UInt8) := by
        rw [List.set_append_right _ _ (by omega), hrl, Nat.sub_self, show 128 - nr = (127 - nr) + 1 by omega, List.replicate_succ, List.set_cons_zero, List.append_assoc]; rfl
      rw [e] at this
      exact this
    have hR4 : Blk (w2.setCell ⟨w.heap.size + 1, nr, none⟩ (.int .u8 128)) w.heap.size 120 (hs0.map u32v) := hR2.other (by simp) _
    have hE4 : Ext w (w2.setCell ⟨w.heap.size + 1, nr, none⟩ (.int .u8 128)) := Ext.setCell hE2 (by simp) _
    clear hB3 hR2 hE2 hcl hfr
    generalize w2.setCell ⟨w.heap.size + 1, nr, none⟩ (.int .u8 128) = w4 at *
    haveI := hB4.blt
    haveI := hR4.blt
    clear HCP HZl
    refine wp_region_vague 7 [[], [0], [0, 1], [], [3], [3, 4], [3, 4, 5], [0, 1, 2, 3, 4, 5, 6]] (by kernel_rfl) (by kernel_rfl) (by kernel_rfl) (by kernel_rfl) ?_; simp only [List.take_succ_cons, List.take_zero, List.drop_succ_cons, List.drop_zero, List.take_nil, List.drop_nil]
    (repeat (apply VD_der; (case h => (intro us w' hx hf; obtain ⟨x, rfl⟩ := hx.out; refine ⟨rfl, ?_⟩; simp [go_sem, execOp, *]; (try simp (disch := omega) only [Go.IntWalk.i64_in, Go.IntWalk.rem_in, Go.IntWalk.wrap64_in]); rfl)); (try simp only [Act.put, List.setIfInBounds_toArray, List.set_cons_succ, List.set_cons_zero])))
    have hput := fun W => oput_any (UInt64.ofNat (count * 8)) 8 hc8.out (show (8 : Int) = ((8 : Nat) : Int) from rfl) W (by omega)
    generalize hpp : putL 8 (UInt64.ofNat (count * 8)) = pp at hput
    (refine VD_vag (fun p => .slice (p 0).1 (8) (p 0).2) (fun p w'' => Own w'' 0 (p 0).1 (8) (p 0).2 (pp)) (fun p w w' h hx => h.ext hx) (fun us w' hx hf => ⟨rfl, ?_⟩) ?_; (unfold gives; simp [go_sem, execOp]; exact vag_fresh (Nat.zero_le _) (hput _)))
    (repeat (apply VD_der; (case h => (intro us w' hx hf; obtain ⟨x, rfl⟩ := hx.out; refine ⟨rfl, ?_⟩; simp [go_sem, execOp, *]; (try simp (disch := omega) only [Go.IntWalk.i64_in, Go.IntWalk.rem_in, Go.IntWalk.wrap64_in]); rfl)); (try simp only [Act.put, List.setIfInBounds_toArray, List.set_cons_succ, List.set_cons_zero])))
    (refine VD_nil ?_; intro us w' hx hf; obtain ⟨x, rfl⟩ := hx.out; (try simp only [Act.put, List.setIfInBounds_toArray, List.set_cons_succ, List.set_cons_zero, wpList_none]); (try simp only [List.mem_cons, List.not_mem_nil, or_false, forall_eq_or_imp, forall_eq, List.nil_append, List.cons_append, List.mem_append, false_or, true_and, and_true] at hf); (try simp only [Nat.reduceAdd, Nat.zero_add] at hf); (try simp only [Nat.reduceAdd, Nat.zero_add]))
    refine wpList_copy_blk rfl (.tmp 23) (.tmp 27) _ _ rfl 5 Tryz.underlying27 (by kernel_rfl) (w.heap.size + 1) 120 _ _ _ _ _ pp rfl rfl 126 _ (hB4.ext x) hf.sl 8 (by omega) (by simp; omega) ?_
    intro w5 hB5 hM5
    rw [fin_tail rest _ nr 120 hrl (by omega) (by omega) (by rw [← hpp]; exact putL_length _ _)] at hB5
    rw [← hpp] at hB5
    have hR5 : Blk w5 w.heap.size 120 (hs0.map u32v) := Blk.turn hM5 (hR4.ext x) (by omega)
    have hE5 : Ext w w5 := Below.trans (hE4.ext x) (hM5.below (by omega) (hE4.ext x).size)
    have hS5 : Sl w5 (some ⟨w.heap.size + 1, 0, none⟩) 128 (tailB rest count) := by
      rw [HT.out]
      have := (hB5.sl rfl).take 128 (by simp [putL_length, hrl]; omega)
      rwa [List.take_append_of_le_length (by simp [putL_length, hrl]; omega), List.take_of_length_le (by simp [putL_length, hrl]; omega)] at this
    clear hB5 hM5 hR4 hB4 hpp hput hf
    haveI := hR5.blt
    have HF := Lib.hid (show fin hs0 rest count = outTo (blocks hs0 (tailB rest count) 2) 8 by
      have hl : (tailB rest count).length = 128 := hS5.len
      unfold fin; rw [hl]; rfl)
    have hbl := blocks_length hs0 hh0 (tailB rest count) 2
    go_wp2_with fail
    (with_reducible refine (whole_any w.heap.size _ 128 128 120 hs0 (tailB rest count) _ hR5 hh0 hS5 (by omega) (by omega) 2 0 (by omega) (by omega)).mono ?_)
    rintro e w6 ⟨a6, c6, rfl, _, _, hR6, hM6⟩
    have hE6 : Ext w w6 := Below.trans hE5 (hM6.below (Nat.le_refl _) hE5.size)
    generalize blocks hs0 (tailB rest count) 2 = hs at *
    obtain ⟨x0, x1, x2, x3, x4, x5, x6, x7, rfl⟩ := list8 hs hbl
    have hix : ∀ (i : Nat), i < 8 → ∀ W, (Instr.index 120 (.agg #[u32v x0, u32v x1, u32v x2, u32v x3, u32v x4, u32v x5, u32v x6, u32v x7]) (.int .i64 (i : Int))).run Tryz.prog W = .ok (.int .u32 (n32 (w' [x0, x1, x2, x3, x4, x5, x6, x7] i))) W := by
      intro i hi W
      match i, hi with
      | 0, _ => exact hidx0 _ _ _ _ _ _ _ _ W
      | 1, _ => exact hidx1 _ _ _ _ _ _ _ _ W
      | 2, _ => exact hidx2 _ _ _ _ _ _ _ _ W
      | 3, _ => exact hidx3 _ _ _ _ _ _ _ _ W
      | 4, _ => exact hidx4 _ _ _ _ _ _ _ _ W
      | 5, _ => exact hidx5 _ _ _ _ _ _ _ _ W
      | 6, _ => exact hidx6 _ _ _ _ _ _ _ _ W
      | 7, _ => exact hidx7 _ _ _ _ _ _ _ _ W
    clear hM6 hS5 hE5 hR5 HT
    go_wp2_with (first
      | (refine wpList_load_arr (RW8) rfl _ rfl (w.heap.size) (0) rfl ([x0, x1, x2, x3, x4, x5, x6, x7].map u32v) ((hR6.rd.ext (by repeat (first | (with_reducible first | exact Ext.refl _ | assumption | apply Ext.alloc | apply Ext.ext | apply Ext.drew | refine Ext.setCell ?_ ?_ _) | (focus (simp [go_sem]; done)))))) (rfl) ?_)
      | fail)
    clear hR6
    go_loopw [10, 12, 34] (fun v10 _ v34 wr => ∃ (i : Nat) (so : Option Addr) (co : Nat), i ≤ 8 ∧ v34 = .int .i64 i ∧ v10 = .slice so (4 * i) co ∧ Own wr w6.heap.size so (4 * i) co (outTo [x0, x1, x2, x3, x4, x5, x6, x7] i) ∧ Ext w6 wr) (fun _ _ v34 _ => 8 - (intOf v34).toNat)
    case atStart => exact ⟨0, _, _, by omega, rfl, rfl, own_made _ 32 (by decide), (by repeat (first | (with_reducible first | exact Ext.refl _ | assumption | apply Ext.alloc | apply Ext.ext | apply Ext.drew | refine Ext.setCell ?_ ?_ _) | (focus (simp [go_sem]; done))))⟩
    case round =>
      obtain ⟨i, so, co, hi, rfl, rfl, hOo, hxo⟩ := hrel
      by_cases hlt2 : i < 8
      · have HU := Lib.hid (outTo_succ [x0, x1, x2, x3, x4, x5, x6, x7] i)
        have hxi := fun W => hix i hlt2 W
        obtain ⟨y, hy⟩ : ∃ y, y = w' [x0, x1, x2, x3, x4, x5, x6, x7] i := ⟨_, rfl⟩
        rw [← hy] at HU
        simp only [← hy] at hxi
        rw [put4_eq] at HU
        clear hy hix
        go_wp2_with (at_builtin; refine wpList_append_by U rfl _ _ rfl w6.heap.size so _ co _ rfl _ 4 4 _ rfl (hOo.ext (by repeat (first | (with_reducible first | exact Ext.refl _ | assumption | apply Ext.alloc | apply Ext.ext | apply Ext.drew | refine Ext.setCell ?_ ?_ _) | (focus (simp [go_sem]; done))))) (sl_new4 _ _ _ _ _ _) (by omega) (by simp; have := hxo.size; omega) ?_; intro a8 c8 w8 hO8 hg8 hB8)
        go_roundw
        case rel => exact ⟨i + 1, a8, c8, by omega, by go_num, rfl, by rw [HU.out]; exact hO8, Below.trans (b := wr.alloc _) (by repeat (first | (with_reducible first | exact Ext.refl _ | assumption | apply Ext.alloc | apply Ext.ext | apply Ext.drew | refine Ext.setCell ?_ ?_ _) | (focus (simp [go_sem]; done)))) hB8⟩
        case measure => simp [intOf]; omega
      · obtain rfl : i = 8 := (by omega); (try simp only [Nat.reduceAdd, Nat.reduceMul, Nat.reduceDiv, Nat.reduceSub, Int.cast_ofNat_Int])
        go_wp2
        go_ret
        exact ⟨_, _, rfl, by rw [HF.out]; exact hOo.mono hE6.size, hE6.trans hxo⟩
  · have hI : ¬ (64 : Int) < (nr : Int) + 9 := by omega
    have HT := Lib.hid (tailB_lt rest count (by omega))
    rw [hrl] at HT
    go_enter Tryz.func100, Tryz.ntmps100
    go_wp2_with (first
      | ((refine wpList_copy_blk rfl (.tmp 13) (.tmp 14) _ _ rfl 5 Tryz.underlying27 (by kernel_rfl) (w.heap.size + 1) (0) _ _ _ _ _ (rest) rfl rfl (126) _ ((Blk.newAt _ _ _ _ (by simp))) ((Hr.ext (by repeat (first | (with_reducible first | exact Ext.refl _ | assumption | apply Ext.alloc | apply Ext.ext | apply Ext.drew | refine Ext.setCell ?_ ?_ _) | (focus (simp [go_sem]; done)))))) (nr) (by omega) ((by rw [HZl.out]; omega)) ?_; intro w2 hB2 hM2); obtain ⟨hB3, hR2, hE2, hcl, hfr, _, _⟩ := fin_copied hB2 HCP.out hrl hn hM2 (gw := w.heap.size) (TW := 120) (vs := hs0.map u32v) (by rw [hh8.out]; exact (Blk.new _ _ _).alloc _) (by omega) (w := w) (by repeat (first | (with_reducible first | exact Ext.refl _ | assumption | apply Ext.alloc | apply Ext.ext | apply Ext.drew | refine Ext.setCell ?_ ?_ _) | (focus (simp [go_sem]; done)))) (by omega); clear hB2 hM2)
      | fail)
    have hB4 : Blk (w2.setCell ⟨w.heap.size + 1, nr, none⟩ (.int .u8 128)) (w.heap.size + 1) 126 ((rest ++ [128] ++ List.replicate (127 - nr) (0 : UInt8)).map u8v) := by
      have := hB3.set nr (u8v 128)
      rw [← List.map_set] at this
      have e : (rest ++ List.replicate (128 - nr) (0 : UInt8)).set nr 128 = rest ++ [128] ++ List.replicate (127 - nr) (0 : UInt8) := by
        rw [List.set_append_right _ _ (by omega), hrl, Nat.sub_self, show 128 - nr = (127 - nr) + 1 by omega, List.replicate_succ, List.set_cons_zero, List.append_assoc]; rfl
      rw [e] at this
      exact this
    have hR4 : Blk (w2.setCell ⟨w.heap.size + 1, nr, none⟩ (.int .u8 128)) w.heap.size 120 (hs0.map u32v) := hR2.other (by simp) _
    have hE4 : Ext w (w2.setCell ⟨w.heap.size + 1, nr, none⟩ (.int .u8 128)) := Ext.setCell hE2 (by simp) _
    clear hB3 hR2 hE2 hcl hfr
    generalize w2.setCell ⟨w.heap.size + 1, nr, none⟩ (.int .u8 128) = w4 at *
    haveI := hB4.blt
    haveI := hR4.blt
    clear HCP HZl
    refine wp_region_vague 7 [[], [0], [0, 1], [], [3], [3, 4], [3, 4, 5], [0, 1, 2, 3, 4, 5, 6]] (by kernel_rfl) (by kernel_rfl) (by kernel_rfl) (by kernel_rfl) ?_; simp only [List.take_succ_cons, List.take_zero, List.drop_succ_cons, List.drop_zero, List.take_nil, List.drop_nil]
    (repeat (apply VD_der; (case h => (intro us w' hx hf; obtain ⟨x, rfl⟩ := hx.out; refine ⟨rfl, ?_⟩; simp [go_sem, execOp, *]; (try simp (disch := omega) only [Go.IntWalk.i64_in, Go.IntWalk.rem_in, Go.IntWalk.wrap64_in]); rfl)); (try simp only [Act.put, List.setIfInBounds_toArray, List.set_cons_succ, List.set_cons_zero])))
    have hput := fun W => oput_any (UInt64.ofNat (count * 8)) 8 hc8.out (show (8 : Int) = ((8 : Nat) : Int) from rfl) W (by omega)
    generalize hpp : putL 8 (UInt64.ofNat (count * 8)) = pp at hput
    (refine VD_vag (fun p => .slice (p 0).1 (8) (p 0).2) (fun p w'' => Own w'' 0 (p 0).1 (8) (p 0).2 (pp)) (fun p w w' h hx => h.ext hx) (fun us w' hx hf => ⟨rfl, ?_⟩) ?_; (unfold gives; simp [go_sem, execOp]; exact vag_fresh (Nat.zero_le _) (hput _)))
    (repeat (apply VD_der; (case h => (intro us w' hx hf; obtain ⟨x, rfl⟩ := hx.out; refine ⟨rfl, ?_⟩; simp [go_sem, execOp, *]; (try simp (disch := omega) only [Go.IntWalk.i64_in, Go.IntWalk.rem_in, Go.IntWalk.wrap64_in]); rfl)); (try simp only [Act.put, List.setIfInBounds_toArray, List.set_cons_succ, List.set_cons_zero])))
    (refine VD_nil ?_; intro us w' hx hf; obtain ⟨x, rfl⟩ := hx.out; (try simp only [Act.put, List.setIfInBounds_toArray, List.set_cons_succ, List.set_cons_zero, wpList_none]); (try simp only [List.mem_cons, List.not_mem_nil, or_false, forall_eq_or_imp, forall_eq, List.nil_append, List.cons_append, List.mem_append, false_or, true_and, and_true] at hf); (try simp only [Nat.reduceAdd, Nat.zero_add] at hf); (try simp only [Nat.reduceAdd, Nat.zero_add]))
    refine wpList_copy_blk rfl (.tmp 23) (.tmp 27) _ _ rfl 5 Tryz.underlying27 (by kernel_rfl) (w.heap.size + 1) 56 _ _ _ _ _ pp rfl rfl 126 _ (hB4.ext x) hf.sl 8 (by omega) (by simp; omega) ?_
    intro w5 hB5 hM5
    rw [fin_tail rest _ nr 56 hrl (by omega) (by omega) (by rw [← hpp]; exact putL_length _ _)] at hB5
    rw [← hpp] at hB5
    have hR5 : Blk w5 w.heap.size 120 (hs0.map u32v) := Blk.turn hM5 (hR4.ext x) (by omega)
    have hE5 : Ext w w5 := Below.trans (hE4.ext x) (hM5.below (by omega) (hE4.ext x).size)
    have hS5 : Sl w5 (some ⟨w.heap.size + 1, 0, none⟩) 64 (tailB rest count) := by
      rw [HT.out]
      have := (hB5.sl rfl).take 64 (by simp [putL_length, hrl]; omega)
      rwa [List.take_append_of_le_length (by simp [putL_length, hrl]; omega), List.take_of_length_le (by simp [putL_length, hrl]; omega)] at this
    clear hB5 hM5 hR4 hB4 hpp hput hf
    haveI := hR5.blt
    have HF := Lib.hid (show fin hs0 rest count = outTo (blocks hs0 (tailB rest count) 1) 8 by
      have hl : (tailB rest count).length = 64 := hS5.len
      unfold fin; rw [hl]; rfl)
    have hbl := blocks_length hs0 hh0 (tailB rest count) 1
    go_wp2_with fail
    (with_reducible refine (whole_any w.heap.size _ 64 128 120 hs0 (tailB rest count) _ hR5 hh0 hS5 (by omega) (by omega) 1 0 (by omega) (by omega)).mono ?_)
    rintro e w6 ⟨a6, c6, rfl, _, _, hR6, hM6⟩
    have hE6 : Ext w w6 := Below.trans hE5 (hM6.below (Nat.le_refl _) hE5.size)
    generalize blocks hs0 (tailB rest count) 1 = hs at *
    obtain ⟨x0, x1, x2, x3, x4, x5, x6, x7, rfl⟩ := list8 hs hbl
    have hix : ∀ (i : Nat), i < 8 → ∀ W, (Instr.index 120 (.agg #[u32v x0, u32v x1, u32v x2, u32v x3, u32v x4, u32v x5, u32v x6, u32v x7]) (.int .i64 (i : Int))).run Tryz.prog W = .ok (.int .u32 (n32 (w' [x0, x1, x2, x3, x4, x5, x6, x7] i))) W := by
      intro i hi W
      match i, hi with
      | 0, _ => exact hidx0 _ _ _ _ _ _ _ _ W
      | 1, _ => exact hidx1 _ _ _ _ _ _ _ _ W
      | 2, _ => exact hidx2 _ _ _ _ _ _ _ _ W
      | 3, _ => exact hidx3 _ _ _ _ _ _ _ _ W
      | 4, _ => exact hidx4 _ _ _ _ _ _ _ _ W
      | 5, _ => exact hidx5 _ _ _ _ _ _ _ _ W
      | 6, _ => exact hidx6 _ _ _ _ _ _ _ _ W
      | 7, _ => exact hidx7 _ _ _ _ _ _ _ _ W
    clear hM6 hS5 hE5 hR5 HT
    go_wp2_with (first
      | (refine wpList_load_arr (RW8) rfl _ rfl (w.heap.size) (0) rfl ([x0, x1, x2, x3, x4, x5, x6, x7].map u32v) ((hR6.rd.ext (by repeat (first | (with_reducible first | exact Ext.refl _ | assumption | apply Ext.alloc | apply Ext.ext | apply Ext.drew | refine Ext.setCell ?_ ?_ _) | (focus (simp [go_sem]; done)))))) (rfl) ?_)
      | fail)
    clear hR6
    go_loopw [10, 12, 34] (fun v10 _ v34 wr => ∃ (i : Nat) (so : Option Addr) (co : Nat), i ≤ 8 ∧ v34 = .int .i64 i ∧ v10 = .slice so (4 * i) co ∧ Own wr w6.heap.size so (4 * i) co (outTo [x0, x1, x2, x3, x4, x5, x6, x7] i) ∧ Ext w6 wr) (fun _ _ v34 _ => 8 - (intOf v34).toNat)
    case atStart => exact ⟨0, _, _, by omega, rfl, rfl, own_made _ 32 (by decide), (by repeat (first | (with_reducible first | exact Ext.refl _ | assumption | apply Ext.alloc | apply Ext.ext | apply Ext.drew | refine Ext.setCell ?_ ?_ _) | (focus (simp [go_sem]; done))))⟩
    case round =>
      obtain ⟨i, so, co, hi, rfl, rfl, hOo, hxo⟩ := hrel
      by_cases hlt2 : i < 8
      · have HU := Lib.hid (outTo_succ [x0, x1, x2, x3, x4, x5, x6, x7] i)
        have hxi := fun W => hix i hlt2 W
        obtain ⟨y, hy⟩ : ∃ y, y = w' [x0, x1, x2, x3, x4, x5, x6, x7] i := ⟨_, rfl⟩
        rw [← hy] at HU
        simp only [← hy] at hxi
        rw [put4_eq] at HU
        clear hy hix
        go_wp2_with (at_builtin; refine wpList_append_by U rfl _ _ rfl w6.heap.size so _ co _ rfl _ 4 4 _ rfl (hOo.ext (by repeat (first | (with_reducible first | exact Ext.refl _ | assumption | apply Ext.alloc | apply Ext.ext | apply Ext.drew | refine Ext.setCell ?_ ?_ _) | (focus (simp [go_sem]; done))))) (sl_new4 _ _ _ _ _ _) (by omega) (by simp; have := hxo.size; omega) ?_; intro a8 c8 w8 hO8 hg8 hB8)
        go_roundw
        case rel => exact ⟨i + 1, a8, c8, by omega, by go_num, rfl, by rw [HU.out]; exact hO8, Below.trans (b := wr.alloc _) (by repeat (first | (with_reducible first | exact Ext.refl _ | assumption | apply Ext.alloc | apply Ext.ext | apply Ext.drew | refine Ext.setCell ?_ ?_ _) | (focus (simp [go_sem]; done)))) hB8⟩
        case measure => simp [intOf]; omega
      · obtain rfl : i = 8 := (by omega); (try simp only [Nat.reduceAdd, Nat.reduceMul, Nat.reduceDiv, Nat.reduceSub, Int.cast_ofNat_Int])
        go_wp2
        go_ret
        exact ⟨_, _, rfl, by rw [HF.out]; exact hOo.mono hE6.size, hE6.trans hxo⟩

set_option maxRecDepth 100000 in
set_option maxHeartbeats 4000000 in
theorem hsum_any (a : Option Addr) (n c : Nat) (b : List UInt8) (w : World) (Hb : Sl w a n b) (hnc : n ≤ c) (hn : n ≤ 1000000) :
    Calls Tryz.prog 96 #[.slice a n c] w (Fresh 32 (sha b) w) := by
  obtain ⟨nb, hnb⟩ : ∃ nb, nb = n / 64 := ⟨_, rfl⟩
  obtain ⟨m, hm⟩ : ∃ m, m = n % 64 := ⟨_, rfl⟩
  have HF := Lib.hid (show sha b = fin (blocks h0 b nb) (b.drop (64 * nb)) n by unfold sha; rw [Hb.len, ← hnb, Nat.mul_comm])
  have hnm := Lib.hid (show n = 64 * nb + m by omega)
  have hm64 := Lib.hid (show m < 64 by omega)
  clear hnb hm
  go_enter Tryz.func96, Tryz.ntmps96
  go_wp2_with (first
    | (go_at_call 98; refine (hfirst_any _).mono ?_; rintro e w1 ⟨rfl, hxq⟩; obtain ⟨xq, rfl⟩ := hxq.out; clear hxq)
    | (refine wpList_alloc_store (RW8) rfl rfl _ _ rfl rfl rfl rfl (by simp [Act.put]) (h0.map u32v) rfl (by simp) (rfl) (one_u32 _) ?_; intro x hBx _)
    | fail)
  have hE1 : Ext w ((w.ext xq).ext x) := (by repeat (first | (with_reducible first | exact Ext.refl _ | assumption | apply Ext.alloc | apply Ext.ext | apply Ext.drew | refine Ext.setCell ?_ ?_ _) | (focus (simp [go_sem]; done))))
  have hbl := blocks_length h0 rfl b nb
  refine (whole_any _ a n c 120 h0 b _ hBx rfl (Hb.ext hE1) hnc hn nb m hnm.out hm64.out).mono ?_
  rintro e w6 ⟨a6, c6, rfl, hm6, HS, hR6, hM6⟩
  have hE6 : Ext w w6 := Below.trans hE1 (hM6.below (by simp [World.ext]) hE1.size)
  generalize blocks h0 b nb = hs at *
  haveI := hR6.blt
  go_wp2_with (first
    | (refine wpList_load_arr (RW8) rfl _ rfl (_) (0) rfl (hs.map u32v) (hR6.rd) ((by simpa using hbl)) ?_)
    | fail)
  (with_reducible refine (hfinish_any _ m _ n hs _ _ hbl HS hm64.out (by omega)).mono ?_)
  rintro e w7 ⟨a7, c7, rfl, hO7, hx7⟩
  go_wp2
  go_ret
  exact ⟨_, _, rfl, by rw [HF.out]; exact hO7.mono hE6.size, hE6.trans hx7⟩
end Go.Proofs.YtbfgeokngekdmaaGreat
