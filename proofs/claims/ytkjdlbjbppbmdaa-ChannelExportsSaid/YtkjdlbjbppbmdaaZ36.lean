/- Lemmas of this claim, several texts joined. -/
import Derived.Test.YtkjdlbjbppbmdaaZ6
import Derived.Test.YtkjdlbjbppbmdaaZ32
import Derived.Test.YtkjdlbjbppbmdaaZ35
set_option linter.unusedVariables false
set_option linter.unusedSimpArgs false
/- Layer 20: the law ChannelExports. -/
namespace Go.Proofs.Ytkjdlbjbppbmdaa
open Go.RowKit Go.Sec Go.Oct Go.Sha Go.Aes Go.Chan BigFrame

theorem exp_ok (cl : Bool) (S lab ctx : List UInt8) (k : Nat) {kI : Int} (hkI : kI = (k : Int)) (hS : S.length = 32) (hk : k ≤ 8160) (hlab : lab.length ≤ 40) (b : Option Addr) (m d : Nat) (hmd : m ≤ d) (hm : m ≤ 60) (v : Value) (w : World) (hv : ChR w v (keyed cl S 0 0)) (hl : Sl w b m ctx) :
    Calls Try.prog 64 #[v, .string ⟨lab.toArray⟩, .slice b m d, .int .i64 kI] w (Read2 k (expandK S (labelK expS lab ctx) k) (.int .i64 0) w) := by
  subst hkI
  have := export_any v (keyed cl S 0 0) lab b m d ctx (k : Int) w hv (show S.length ≤ 1000000 by omega) hl hmd (by omega) (by omega)
  rw [exportE_ok (fit_keyed.2 (by omega)) hk] at this
  simpa [expandK_length] using this
theorem ren_ok (cl : Bool) (S f : List UInt8) (hS : S.length = 32) (h1 : 16 ≤ f.length) (h2 : f.length ≤ 64) (b : Option Addr) (m d : Nat) (hmd : m ≤ d) (v : Value) (w : World) (hv : ChR w v (keyed cl S 0 0)) (hl : Sl w b m f) :
    Calls Try.prog 49 #[v, .slice b m d] w fun e w' => ∃ v', e = .returned (.tuple #[v', .int .i64 0]) ∧ ChR w' v' (keyed cl (hmac f S) 0 0) ∧ Ext w w' := by
  have := renew_any v (keyed cl S 0 0) b m d f w hv (show S.length ≤ 1000000 by omega) hl hmd (by have := hl.len; omega)
  rwa [renewE_ok (fit_keyed.2 (by omega)) h1 h2] at this

set_option maxRecDepth 100000 in
set_option maxHeartbeats 8000000 in
theorem channelExports_walk (seed : Int) (lab : List UInt8) (a2 : Option Addr) (n2 c2 : Nat) (n : Int) (a4 : Option Addr) (n4 c4 : Nat) (ctx fr : List UInt8) (w : World) (hX : Sl w a2 n2 ctx) (hXc : n2 ≤ c2) (hF : Sl w a4 n4 fr) (hFc : n4 ≤ c4) :
    Calls Try.prog 12 #[.int .i64 seed, .string ⟨lab.toArray⟩, .slice a2 n2 c2, .int .i64 n, .slice a4 n4 c4] w fun e w' => e = .returned (.bool true) ∧ Ext w w' := by
  have hkn := fun W => known20_any W
  by_cases hl : 40 < lab.length
  · have hI : ¬ lab.length ≤ 40 := by omega
    go_enter Try.func12, Try.ntmps12
    go_wp2_with (first
      | (go_at_call 25; refine (hkn _).mono ?_; rintro e w1 ⟨rfl, hxq⟩; obtain ⟨xq, rfl⟩ := hxq.out; clear hxq)
      | fail)
    go_ret
    exact ⟨rfl, (by repeat (first | (with_reducible first | exact Ext.refl _ | assumption | apply Ext.alloc | apply Ext.ext | apply Ext.drew | refine Ext.setCell ?_ ?_ _) | (focus (simp [go_sem]; done))))⟩
  · have hlI : lab.length ≤ 40 := by omega
    by_cases hc : 60 < n2
    · have hI : (60 : Int) < (n2 : Int) := by omega
      go_enter Try.func12, Try.ntmps12
      go_wp2_with (first
        | (go_at_call 25; refine (hkn _).mono ?_; rintro e w1 ⟨rfl, hxq⟩; obtain ⟨xq, rfl⟩ := hxq.out; clear hxq)
        | fail)
      go_ret
      exact ⟨rfl, (by repeat (first | (with_reducible first | exact Ext.refl _ | assumption | apply Ext.alloc | apply Ext.ext | apply Ext.drew | refine Ext.setCell ?_ ?_ _) | (focus (simp [go_sem]; done))))⟩
    · have hI : ¬ (60 : Int) < (n2 : Int) := by omega
      obtain ⟨s, hs1, hs⟩ := nmod seed 1000 (by omega)
      obtain ⟨k, hk1, hk⟩ := nmod n 100 (by omega)
      simp only [Int.cast_ofNat_Int] at hs hk
      have HS := Lib.hid hs
      have HK := Lib.hid hk
      clear hs hk
      have hends := fun W => ends_any s rfl W (by omega)
      obtain ⟨S, hS⟩ : ∃ S, endS s = S := ⟨_, rfl⟩
      have hSl : S.length = 32 := by rw [← hS]; exact endS_length s
      rw [hS] at hends
      obtain ⟨F, hFe⟩ : ∃ F, Hid (F = fr.take 40 ++ zero16) := ⟨_, Lib.hid rfl⟩
      have hfl := hF.len
      have hFl : F.length = min n4 40 + 16 := by rw [hFe.out]; simp [zero16, hfl]; omega
      obtain ⟨S2, hS2⟩ : ∃ S2, hmac F S = S2 := ⟨_, rfl⟩
      have hS2l : S2.length = 32 := by rw [← hS2]; exact hmac_length _ _
      have hex := fun cl q {qI : Int} (e : qI = ((q : Nat) : Int)) h v W h1 h2 => exp_ok cl S lab ctx q e hSl h hlI a2 n2 c2 hXc (by omega) v W h1 h2
      have hex2 := fun cl q {qI : Int} (e : qI = ((q : Nat) : Int)) h v W h1 h2 => exp_ok cl S2 lab ctx q e hS2l h hlI a2 n2 c2 hXc (by omega) v W h1 h2
      have hren := fun cl b d hd v W h1 h2 => ren_ok cl S F hSl (by omega) (by omega) b (min n4 40 + 16) d hd v W h1 h2
      rw [hS2] at hren
      have hte : (expandK S (labelK expS lab ctx) (k + 5)).take k = expandK S (labelK expS lab ctx) k := expandK_take _ _ _ _ (by omega)
      have eA := fun v W h1 h2 => hex true k (rfl : (k : Int) = ((k : Nat) : Int)) (by omega) v W h1 h2
      have eB := fun v W h1 h2 => hex false k (rfl : (k : Int) = ((k : Nat) : Int)) (by omega) v W h1 h2
      have eC := fun v W h1 h2 => hex false (k + 5) (show (k : Int) + 5 = ((k + 5 : Nat) : Int) by omega) (by omega) v W h1 h2
      have eP := fun v W h1 h2 => hex2 true k (rfl : (k : Int) = ((k : Nat) : Int)) (by omega) v W h1 h2
      have eQ := fun v W h1 h2 => hex2 false k (rfl : (k : Int) = ((k : Nat) : Int)) (by omega) v W h1 h2
      clear hex hex2
      generalize labelK expS lab ctx = L at *
      generalize hX1 : expandK S L k = X1 at *
      generalize hX2 : expandK S L (k + 5) = X2 at *
      generalize hX3 : expandK S2 L k = X3 at *
      clear hS hfl hS2
      go_enter Try.func12, Try.ntmps12
      go_wp2_with fail; (with_reducible refine (within_any seed 1000 _ (by omega) (by omega)).mono ?_); rintro e w1 ⟨rfl, hxq⟩; obtain ⟨xq, rfl⟩ := hxq.out; clear hxq
      rw [HS.out]
      go_wp2_with fail
      refine (hends _).mono ?_
      rintro e w1 ⟨v1, v2, rfl, hv1, hv2, hx1⟩
      obtain ⟨p1, rfl, q1⟩ := hv1.cells
      obtain ⟨p2, rfl, q2⟩ := hv2.cells
      have hEW : Ext w w1 := (Ext.of_ext w xq).trans hx1
      clear hx1 hends hv1 hv2
      have hA0 : Blk ((w1.alloc (.cells #[.bool false, .slice none 0 0, .slice none 0 0, .slice none 0 0, .int .i64 0, .int .i64 0] 24)).alloc (.cells #[.bool false, .slice none 0 0, .slice none 0 0, .slice none 0 0, .int .i64 0, .int .i64 0] 24)) w1.heap.size 24 zeroCells := (Blk.new w1 #[.bool false, .slice none 0 0, .slice none 0 0, .slice none 0 0, .int .i64 0, .int .i64 0] 24).alloc _
      have hB0 : Blk ((w1.alloc (.cells #[.bool false, .slice none 0 0, .slice none 0 0, .slice none 0 0, .int .i64 0, .int .i64 0] 24)).alloc (.cells #[.bool false, .slice none 0 0, .slice none 0 0, .slice none 0 0, .int .i64 0, .int .i64 0] 24)) (w1.heap.size + 1) 24 zeroCells := Blk.newAt _ #[.bool false, .slice none 0 0, .slice none 0 0, .slice none 0 0, .int .i64 0, .int .i64 0] 24 (w1.heap.size + 1) (by simp)
      have hx0 : Ext w1 ((w1.alloc (.cells #[.bool false, .slice none 0 0, .slice none 0 0, .slice none 0 0, .int .i64 0, .int .i64 0] 24)).alloc (.cells #[.bool false, .slice none 0 0, .slice none 0 0, .slice none 0 0, .int .i64 0, .int .i64 0] 24)) := (Ext.of_alloc _ _).alloc _
      have q1 := q1.ext hx0
      have q2 := q2.ext hx0
      haveI := hA0.blt
      haveI := hB0.blt
      go_wp2_with (first
        | (refine wpList_store_arr (RC6) rfl _ _ rfl (w1.heap.size) (0) rfl (chCells (keyed true S 0 0) p1) rfl (24) _ (hA0) (rfl) (by simp) (chCells_one _ _) ?_; intro w2 hA2 hM2); (have hB2 := Blk.turn hM2 hB0 (by omega))
        | (refine wpList_store_arr (RC6) rfl _ _ rfl (w1.heap.size + 1) (0) rfl (chCells (keyed false S 0 0) p2) rfl (24) _ (hB2) (rfl) (by simp) (chCells_one _ _) ?_; intro w3 hB3 hM3); (have hA3 := Blk.turn hM3 hA2 (by omega))
        | fail)
      have q1 := (q1.mut hA0 zeroCells_no hM2).mut hB2 zeroCells_no hM3
      have q2 := (q2.mut hA0 zeroCells_no hM2).mut hB2 zeroCells_no hM3
      have hA : ChB 24 (keyed true S 0 0) p1 w1.heap.size w3 := ⟨hA3, q1⟩
      have hB : ChB 24 (keyed false S 0 0) p2 (w1.heap.size + 1) w3 := ⟨hB3, q2⟩
      have hE0 := hEW.trans hx0
      have hE2 : Ext w w2 := Below.trans hE0 (hM2.below hEW.size hE0.size)
      have hE3 : Ext w w3 := Below.trans hE2 (hM3.below (by have := hEW.size; omega) hE2.size)
      have hsz := hEW.size
      clear hA0 hB0 hx0 q1 q2 hM2 hM3 hA2 hB2 hA3 hB3 hEW hE0 hE2
      have hX3' := hX.ext hE3
      refine (within_any n 100 _ (by omega) (by omega)).mono ?_
      rintro e w4 ⟨rfl, hx4⟩
      rw [HK.out]
      have hA := hA.ext hx4
      have hB := hB.ext hx4
      have hE4 := hE3.trans hx4
      have hX4 := hX3'.ext hx4
      clear hX3' hx4 HK hE3
      go_wp2_with (first
        | (refine wpList_load_arr (RC6) rfl _ rfl (w1.heap.size) (0) rfl (chCells (keyed true S 0 0) p1) ((hA.blk.rd)) (rfl) ?_)
        | fail)
      (with_reducible refine (eA _ _ hA.q.chr hX4).mono ?_)
      rintro e w5 ⟨b1, d1, rfl, hO1, hd1, hx⟩
      have hA := hA.ext hx
      have hB := hB.ext hx
      have hE5 := hE4.trans hx
      have hX5 := hX4.ext hx
      clear hx
      go_wp2_with (first
        | (refine wpList_load_arr (RC6) rfl _ rfl (w1.heap.size + 1) (0) rfl (chCells (keyed false S 0 0) p2) ((hB.blk.rd)) (rfl) ?_)
        | fail)
      (with_reducible refine (eB _ _ hB.q.chr hX5).mono ?_)
      rintro e w6 ⟨b2, d2, rfl, hO2, hd2, hx⟩
      have hA := hA.ext hx
      have hB := hB.ext hx
      have hE6 := hE5.trans hx
      have hX6 := hX5.ext hx
      have hO1 := hO1.ext hx
      clear hx
      go_wp2_with (first
        | (refine wpList_load_arr (RC6) rfl _ rfl (w1.heap.size + 1) (0) rfl (chCells (keyed false S 0 0) p2) ((hB.blk.rd)) (rfl) ?_)
        | fail)
      (with_reducible refine (eC _ _ hB.q.chr hX6).mono ?_)
      rintro e w7 ⟨b3, d3, rfl, hO3, hd3, hx⟩
      have hA := hA.ext hx
      have hB := hB.ext hx
      have hE7 := hE6.trans hx
      have hX7 := hX6.ext hx
      have hO1 := hO1.ext hx
      have hO2 := hO2.ext hx
      clear hx hX4 hX5 hX6 hE4 hE5 hE6
      go_wp2_with fail
      have hF7 := hF.ext (show Ext w w7 from hE7)
      have hmk := make16
      refine wp_region_vague 5 [[], [0], [], [0, 1, 2], [0, 1, 2, 3], [0, 1, 2, 3, 4]] (by kernel_rfl) (by kernel_rfl) (by kernel_rfl) (by kernel_rfl) ?_; simp only [List.take_succ_cons, List.take_zero, List.drop_succ_cons, List.drop_zero, List.take_nil, List.drop_nil]
      (repeat (apply VD_der; (case h => (intro us w' hx hf; obtain ⟨x, rfl⟩ := hx.out; refine ⟨rfl, ?_⟩; simp [go_sem, execOp, *]; (try simp (disch := omega) only [Go.IntWalk.i64_in, Go.IntWalk.rem_in, Go.IntWalk.wrap64_in]); rfl)); (try simp only [Act.put, List.setIfInBounds_toArray, List.set_cons_succ, List.set_cons_zero])))
      (refine VD_vag (fun p => .slice (p 0).1 (min n4 40) (p 0).2) (fun p w'' => Sl w'' (p 0).1 (min n4 40) (fr.take 40)) (fun p w w' h hx => by first | exact h.ext hx | exact ⟨h.1.ext hx, h.2.ext hx⟩ | exact ⟨h.1.ext hx, h.2⟩ | exact ⟨h.1.ext hx, h.2.1.ext hx, h.2.2.ext hx⟩) (fun us w' hx hf => ⟨rfl, ?_⟩) ?_; (unfold gives; simp [go_sem, execOp]; exact (few_any a4 n4 c4 fr 40 (show (40 : Int) = ((40 : Nat) : Int) from rfl) w' (hF7.ext hx) hFc (by omega)).mono fun _ _ ⟨a, c, he, hO, hx⟩ => ⟨_, he, fun _ => (a, c), rfl, hx, hO.sl⟩))
      (refine VD_vag (fun p => .slice (p 0).1 (16) (16)) (fun p w'' => Sl w'' (p 0).1 (16) (zero16)) (fun p w w' h hx => h.ext hx) (fun us w' hx hf => ⟨rfl, ?_⟩) ?_; (unfold gives; simp [go_sem, execOp, make16]; exact ⟨fun _ => (some ⟨w'.heap.size, 0, none⟩, 0), rfl, Ext.of_alloc _ _, (blk_zeros8 _ _).sl rfl⟩))
      (refine VD_vag (fun p => .slice (p 0).1 (2) (2)) (fun p w'' => Bss w'' (p 0).1 (2) ([fr.take 40, zero16])) (fun p w w' h hx => h.ext hx) (fun us w' hx hf => ⟨rfl, ?_⟩) ?_; (unfold gives; simp [go_sem, execOp]; exact ⟨fun _ => (some ⟨w'.heap.size, 0, none⟩, 0), rfl, Ext.of_alloc _ _, bss2 (hf _ (List.mem_append_left _ (List.mem_append_right _ (List.mem_singleton_self _))) rfl) (hf _ (List.mem_append_right _ (List.mem_singleton_self _)) rfl) _⟩))
      (refine VD_vag (fun p => .slice (p 0).1 (min n4 40 + 16) (p 0).2) (fun p w'' => Own w'' 0 (p 0).1 (min n4 40 + 16) (p 0).2 (F)) (fun p w w' h hx => h.ext hx) (fun us w' hx hf => ⟨rfl, ?_⟩) ?_; (unfold gives; simp [go_sem, execOp]; exact vag_fresh (Nat.zero_le _) ((by have := join_any _ 2 2 [fr.take 40, zero16] w' (by exact (hf _ (List.mem_append_right _ (List.mem_singleton_self _)) rfl)) (by omega) (min n4 40 + 16) (by rw [joinL2, List.length_append]; simp [zero16, hF.len]; omega) (by omega); rw [joinL2, ← hFe.out] at this; exact this))))
      (refine VD_nil ?_; intro us w' hx hf; obtain ⟨x, rfl⟩ := hx.out; (try simp only [Act.put, List.setIfInBounds_toArray, List.set_cons_succ, List.set_cons_zero, wpList_none]); (try simp only [List.mem_cons, List.not_mem_nil, or_false, forall_eq_or_imp, forall_eq, List.nil_append, List.cons_append, List.mem_append, false_or, true_and, and_true] at hf); (try simp only [Nat.reduceAdd, Nat.zero_add] at hf); (try simp only [Nat.reduceAdd, Nat.zero_add]))
      obtain ⟨_, _, _, hO4⟩ := hf
      have hle4 := hO4.le
      have hFr := hO4.sl
      clear hO4
      obtain ⟨af, haf⟩ : ∃ a, (us 4 0).1 = a := ⟨_, rfl⟩
      obtain ⟨cf, hcf⟩ : ∃ a, (us 4 0).2 = a := ⟨_, rfl⟩
      rw [haf] at hFr ⊢
      rw [hcf] at hle4 ⊢
      clear haf hcf
      obtain ⟨W, hW⟩ : ∃ W, W = w7.ext x := ⟨_, rfl⟩
      rw [← hW] at hFr ⊢
      have hx : Ext w7 W := by rw [hW]; exact Ext.of_ext _ _
      have hA := hA.ext hx
      have hB := hB.ext hx
      have hO1 := hO1.ext hx
      have hO2 := hO2.ext hx
      have hO3 := hO3.ext hx
      have hXW := hX7.ext hx
      have hEW := hE7.trans hx
      clear hW hx hX7 hE7 hF7 eA eB eC
      go_wp2_with (first
        | (refine wpList_load_arr (RC6) rfl _ rfl (w1.heap.size) (0) rfl (chCells (keyed true S 0 0) p1) ((hA.blk.rd)) (rfl) ?_)
        | fail)
      (with_reducible refine (hren _ _ _ hle4.1 _ _ hA.q.chr hFr).mono ?_)
      rintro e y1 ⟨v, rfl, hv, hx⟩
      obtain ⟨p5, rfl, q5⟩ := hv.cells
      have hB := hB.ext hx
      have hO1 := hO1.ext hx
      have hO2 := hO2.ext hx
      have hO3 := hO3.ext hx
      have hXW := hXW.ext hx
      have hEW := hEW.trans hx
      have hFr := hFr.ext hx
      clear hx hv
      go_wp2_with (first
        | (refine wpList_alloc_store (RC6) rfl rfl _ _ rfl rfl rfl rfl (by simp [Act.put]) (chCells (keyed true S2 0 0) p5) rfl (by simp) (rfl) ((chCells_one _ _)) ?_; intro x hP _)
        | (refine wpList_load_arr (RC6) rfl _ rfl (w1.heap.size + 1) (0) rfl (chCells (keyed false S 0 0) p2) (((hB.blk.extB (by repeat (first | (with_reducible first | exact Ext.refl _ | assumption | apply Ext.alloc | apply Ext.ext | apply Ext.drew | refine Ext.setCell ?_ ?_ _) | (focus (simp [go_sem]; done))))).rd)) (rfl) ?_)
        | fail)
      obtain ⟨W, hW⟩ : ∃ W, W = y1.ext x := ⟨_, rfl⟩
      rw [← hW] at hP ⊢
      have hx : Ext y1 W := by rw [hW]; exact Ext.of_ext _ _
      have hP : ChB 24 (keyed true S2 0 0) p5 y1.heap.size W := ⟨hP, q5.ext hx⟩
      have hB := hB.ext hx
      have hO1 := hO1.ext hx
      have hO2 := hO2.ext hx
      have hO3 := hO3.ext hx
      have hXW := hXW.ext hx
      have hEW := hEW.trans hx
      have hFr := hFr.ext hx
      clear hx hW q5
      (with_reducible refine (hren _ _ _ hle4.1 _ _ hB.q.chr hFr).mono ?_)
      rintro e y2 ⟨v, rfl, hv, hx⟩
      obtain ⟨p6, rfl, q6⟩ := hv.cells
      have hB := hB.ext hx
      have hO1 := hO1.ext hx
      have hO2 := hO2.ext hx
      have hO3 := hO3.ext hx
      have hXW := hXW.ext hx
      have hEW := hEW.trans hx
      have hFr := hFr.ext hx
      have hP := hP.ext hx
      clear hx hv
      go_wp2_with (first
        | (refine wpList_alloc_store (RC6) rfl rfl _ _ rfl rfl rfl rfl (by simp [Act.put]) (chCells (keyed false S2 0 0) p6) rfl (by simp) (rfl) ((chCells_one _ _)) ?_; intro x hQ _)
        | (refine wpList_load_arr (RC6) rfl _ rfl (y1.heap.size) (0) rfl (chCells (keyed true S2 0 0) p5) (((hP.blk.extB (by repeat (first | (with_reducible first | exact Ext.refl _ | assumption | apply Ext.alloc | apply Ext.ext | apply Ext.drew | refine Ext.setCell ?_ ?_ _) | (focus (simp [go_sem]; done))))).rd)) (rfl) ?_)
        | fail)
      obtain ⟨W, hW⟩ : ∃ W, W = y2.ext x := ⟨_, rfl⟩
      rw [← hW] at hQ ⊢
      have hx : Ext y2 W := by rw [hW]; exact Ext.of_ext _ _
      have hQ : ChB 24 (keyed false S2 0 0) p6 y2.heap.size W := ⟨hQ, q6.ext hx⟩
      have hB := hB.ext hx
      have hO1 := hO1.ext hx
      have hO2 := hO2.ext hx
      have hO3 := hO3.ext hx
      have hXW := hXW.ext hx
      have hEW := hEW.trans hx
      have hFr := hFr.ext hx
      have hP := hP.ext hx
      clear hx hW q6 hren
      (with_reducible refine (eP _ _ hP.q.chr hXW).mono ?_)
      rintro e y3 ⟨b5, d5, rfl, hO5, hd5, hx⟩
      have hB := hB.ext hx
      have hO1 := hO1.ext hx
      have hO2 := hO2.ext hx
      have hO3 := hO3.ext hx
      have hXW := hXW.ext hx
      have hEW := hEW.trans hx
      have hFr := hFr.ext hx
      have hQ := hQ.ext hx
      clear hx
      go_wp2_with (first
        | (refine wpList_load_arr (RC6) rfl _ rfl (y2.heap.size) (0) rfl (chCells (keyed false S2 0 0) p6) (((hQ.blk.extB (by repeat (first | (with_reducible first | exact Ext.refl _ | assumption | apply Ext.alloc | apply Ext.ext | apply Ext.drew | refine Ext.setCell ?_ ?_ _) | (focus (simp [go_sem]; done))))).rd)) (rfl) ?_)
        | fail)
      (with_reducible refine (eQ _ _ hQ.q.chr hXW).mono ?_)
      rintro e y4 ⟨b6, d6, rfl, hO6, hd6, hx⟩
      have hB := hB.ext hx
      have hO1 := hO1.ext hx
      have hO2 := hO2.ext hx
      have hO3 := hO3.ext hx
      have hXW := hXW.ext hx
      have hEW := hEW.trans hx
      have hFr := hFr.ext hx
      have hO5 := hO5.ext hx
      clear hx eP eQ
      have hO7 := hO3.take k (by omega)
      rw [hte] at hO7
      have hs1 := fun W h1 h2 => same_any b1 b2 k d1 k d2 X1 X1 W h1 h2
      have hs2 := fun W h1 h2 => same_any b3 b1 k d3 k d1 X1 X1 W h1 h2
      have hs3 := fun W h1 h2 => same_any b5 b6 k d5 k d6 X3 X3 W h1 h2
      simp only [beq_self_eq_true] at hs1 hs2 hs3
      have hkd : (k : Int) ≤ (d3 : Int) := by omega
      go_wp2_with (first
        | (go_at_call 25; refine (hkn _).mono ?_; rintro e w1 ⟨rfl, hxq⟩; obtain ⟨xq, rfl⟩ := hxq.out; clear hxq)
        | (go_at_call 26; (with_reducible refine (hs1 ?_ ?hq237 ?hq238).mono ?_); (case hq237 => (repeat' (first | with_reducible assumption | (with_reducible exact zeros16 _) | (with_reducible exact sl_new1 _ _ _) | (with_reducible first | apply Sl.upE | apply Sl.upA | apply Sl.upD)))); (case hq238 => (repeat' (first | with_reducible assumption | (with_reducible exact zeros16 _) | (with_reducible exact sl_new1 _ _ _) | (with_reducible first | apply Sl.upE | apply Sl.upA | apply Sl.upD)))); rintro e w1 ⟨rfl, hxq⟩; obtain ⟨xq, rfl⟩ := hxq.out; clear hxq)
        | (go_at_call 26; (with_reducible refine (hs2 ?_ ?hq239 ?hq240).mono ?_); (case hq239 => (repeat' (first | with_reducible assumption | (with_reducible exact zeros16 _) | (with_reducible exact sl_new1 _ _ _) | (with_reducible first | apply Sl.upE | apply Sl.upA | apply Sl.upD)))); (case hq240 => (repeat' (first | with_reducible assumption | (with_reducible exact zeros16 _) | (with_reducible exact sl_new1 _ _ _) | (with_reducible first | apply Sl.upE | apply Sl.upA | apply Sl.upD)))); rintro e w1 ⟨rfl, hxq⟩; obtain ⟨xq, rfl⟩ := hxq.out; clear hxq)
        | (go_at_call 26; (with_reducible refine (hs3 ?_ ?hq241 ?hq242).mono ?_); (case hq241 => (repeat' (first | with_reducible assumption | (with_reducible exact zeros16 _) | (with_reducible exact sl_new1 _ _ _) | (with_reducible first | apply Sl.upE | apply Sl.upA | apply Sl.upD)))); (case hq242 => (repeat' (first | with_reducible assumption | (with_reducible exact zeros16 _) | (with_reducible exact sl_new1 _ _ _) | (with_reducible first | apply Sl.upE | apply Sl.upA | apply Sl.upD)))); rintro e w1 ⟨rfl, hxq⟩; obtain ⟨xq, rfl⟩ := hxq.out; clear hxq)
        | fail)
      go_ret
      exact ⟨rfl, hEW.trans (by repeat (first | (with_reducible first | exact Ext.refl _ | assumption | apply Ext.alloc | apply Ext.ext | apply Ext.drew | refine Ext.setCell ?_ ?_ _) | (focus (simp [go_sem]; done))))⟩
end Go.Proofs.Ytkjdlbjbppbmdaa
