/- Lemmas of this claim, several texts joined. -/
import Derived.Test.YtkjdlbjbppbmdaaZ48
set_option linter.unusedVariables false
set_option linter.unusedSimpArgs false
/- Layer 19: the law CookieRingsAgree. -/
namespace Go.Proofs.Ytkjdlbjbppbmdaa
open Go.RowKit Go.Sec Go.Oct Go.Sha Go.Aes Go.Cook Go.Chan BigFrame

theorem vag_ring {f : FuncId} {args : Array Value} {w : World} {r : Ring} (h : Calls Try.prog f args w (RgP r w)) :
    Calls Try.prog f args w fun e w' => ∃ x, e = .returned x ∧ ∃ p : Par, x = .agg #[.slice (p 0).1 r.length (p 0).2] ∧ Ext w w' ∧ Ib w' (p 0).1 r.length r :=
  h.mono fun _ _ ⟨a, n, c, he, h1, _, hx⟩ => by
    have := h1.len
    subst this
    exact ⟨_, he, fun _ => (a, c), rfl, hx, h1⟩
set_option maxRecDepth 100000 in
set_option maxHeartbeats 8000000 in
theorem cookieRingsAgree_walk (seed turns nonce : Int) (w : World) :
    Calls Try.prog 7 #[.int .i64 seed, .int .i64 turns, .int .i64 nonce] w fun e w' => e = .returned (.bool true) ∧ Ext w w' := by
  have hkn := fun W => known19_any W
  obtain ⟨s, hs1, _, hs⟩ := within_nat seed 1000 (by omega) (by omega)
  obtain ⟨t, ht1, _, ht⟩ := within_nat turns 6 (by omega) (by omega)
  obtain ⟨nn, hn1, _, hn⟩ := within_nat nonce 1000 (by omega) (by omega)
  have hs := fun W => hs 1000 W rfl
  have ht := fun W => ht 6 W rfl
  have hn := fun W => hn 1000 W rfl
  have hrg := fun W => wring_any s t rfl (t : Int) (by omega) W (by omega)
  have hpr := fun W => wpair_any 2 (show (2 : Int) = ((2 : Nat) : Int) from rfl) W (by omega)
  have hnb := fun W => wbytes_any nn 16 rfl (show (16 : Int) = ((16 : Nat) : Int) from rfl) W (by omega) (by omega)
  have hky := fun W => key_any s rfl W (by omega)
  have hul := upP_length 2
  have hdl := dnP_length 2
  have hnl := wbytes_length nn 16
  have hkl := wbytes_length s 32
  have hf := fun t ht => ring0_facts s (wbytes s 32) (by omega) t ht
  have hst := fun a c W H1 H2 => cstart_any (s : Int) a 32 c (wbytes s 32) W H1 H2
  rw [startE_ok (by omega) hkl] at hst
  generalize ring0 s (wbytes s 32) = R0 at *
  generalize upP 2 = up at *
  generalize dnP 2 = dn at *
  generalize wbytes nn 16 = nb at *
  generalize wbytes s 32 = kb at *
  obtain ⟨hv, _, hl4, _⟩ := hf t (by omega)
  obtain ⟨hCl, ho, _, _, _⟩ := opens_pure hv (show (0 : Int) ≤ 1 by omega) (show (1 : Int) ≤ 65535 by omega) hul hdl hnl
  have hmk := fun a u v b n c cu cv cn W H1 H2 H3 H4 H5 H6 H7 H8 => cmake_ok (rots R0 t) 1 up dn nb hv (by omega) (by omega) a u v b n c cu cv cn W H1 H2 H3 H4 H5 H6 H7 H8
  generalize cookC (hd (rots R0 t)) 1 up dn nb = CK at *
  have hop := fun a b n c ck W H1 H2 H3 H4 H5 => copen_ok (rots R0 t) _ CK ho a b n c 104 ck W H1 H2 H3 H4 H5
  clear hs1 hn1 ho
  go_enter Try.func7, Try.ntmps7
  go_wp2_with fail
  (with_reducible refine (hs _).mono ?_)
  rintro e w0 ⟨rfl, hx0⟩
  go_wp2_with fail
  (with_reducible refine (ht _).mono ?_)
  rintro e w1 ⟨rfl, hx⟩
  have hE := hx0.trans hx
  clear hx hx0
  go_wp2_with fail
  (with_reducible refine (hky _).mono ?_)
  rintro e w2 ⟨k2, q2, rfl, hO2, hx⟩
  have hE := hE.trans hx
  clear hx
  go_wp2_with fail
  (with_reducible refine (hst _ _ _ hO2.sl hO2.le.1).mono ?_)
  rintro e w3 ⟨a1, n1, c1, rfl, hI1, hc1, hx⟩
  have hE := hE.trans hx
  clear hx hO2
  have hs3 := hE.size
  go_wp2_with (first
    | (refine wpList_alloc_store (RR1) rfl rfl _ _ rfl rfl rfl rfl (by simp [Act.put]) ([.slice a1 n1 c1]) rfl (by simp) (rfl) ((by simp; repeat' (first | rfl | constructor))) ?_; intro x hz _)
    | fail)
  (with_reducible refine (hky _).mono ?_)
  rintro e w4 ⟨k4, q4, rfl, hO4, hx4⟩
  have hx := (Ext.of_ext w3 x).trans hx4
  have hA : RB 57 (rots R0 0) a1 n1 c1 w3.heap.size w4 := ⟨hz.extB hx4, hI1.ext hx, hc1⟩
  have hE := hE.trans hx
  obtain ⟨gA, hgA⟩ : ∃ g, g = w3.heap.size := ⟨_, rfl⟩
  have hgw : w.heap.size ≤ gA := by rw [hgA]; exact hs3
  rw [← hgA] at hA ⊢
  clear hgA hx hx4 hz hI1 hs3
  go_wp2_with fail
  (with_reducible refine (hst _ _ _ hO4.sl hO4.le.1).mono ?_)
  rintro e w5 ⟨a5, n5, c5, rfl, hI5, hc5, hx⟩
  have hA := hA.ext hx
  have hE := hE.trans hx
  have hltA := hA.blk.lt
  clear hx hO4
  go_wp2_with (first
    | (refine wpList_alloc_store (RR1) rfl rfl _ _ rfl rfl rfl rfl (by simp [Act.put]) ([.slice a5 n5 c5]) rfl (by simp) (rfl) ((by simp; repeat' (first | rfl | constructor))) ?_; intro x hz _)
    | fail)
  obtain ⟨W, hW⟩ : ∃ W, W = w5.ext x := ⟨_, rfl⟩
  have hxW : Ext w5 W := by rw [hW]; exact (by repeat (first | (with_reducible first | exact Ext.refl _ | assumption | apply Ext.alloc | apply Ext.ext | apply Ext.drew | refine Ext.setCell ?_ ?_ _) | (focus (simp [go_sem]; done))))
  rw [← hW] at hz ⊢
  obtain ⟨gB, hgB⟩ : ∃ g, g = w5.heap.size := ⟨_, rfl⟩
  rw [← hgB] at hz hltA ⊢
  have hB : RB 57 (rots R0 0) a5 n5 c5 gB W := ⟨hz, hI5.ext hxW, hc5⟩
  have hA := hA.ext hxW
  have hE := hE.trans hxW
  clear hW hxW hz hI5 hgB
  go_wp2
  go_loopw [8, 10, 11] (fun v8 v10 v11 wr => ∃ (k : Nat) (a : Option Addr) (n c : Nat) (b : Option Addr) (m d : Nat), k ≤ t ∧ v11 = .int .i64 k ∧ v8 = .int .i64 0 ∧ v10 = .int .i64 0 ∧ RB 57 (rots R0 k) a n c gA wr ∧ RB 57 (rots R0 k) b m d gB wr ∧ Ext w wr) (fun _ _ v11 _ => t - (intOf v11).toNat)
  case atStart => exact ⟨0, _, _, _, _, _, _, Nat.zero_le _, rfl, rfl, rfl, hA, hB, hE⟩
  case round =>
    clear hA hB hE
    obtain ⟨k, a, n, c, b, m, d, hk, rfl, rfl, rfl, hA, hB, hE⟩ := hrel
    obtain ⟨f1, f2, f3, f4⟩ := hf k (by omega)
    have hnl := hA.ib.len
    have hml := hB.ib.len
    by_cases hlt2 : k < t
    · have hki : (k : Int) < (t : Int) := by omega
      have hrA := fun W H => crotate_any a n c (rots R0 k) W H hA.le (by omega)
      have hrB := fun W H => crotate_any b m d (rots R0 k) W H hB.le (by omega)
      rw [f2] at hrA hrB
      go_wp2_with (first
        | (refine wpList_load_arr (RR1) rfl _ rfl (gA) (0) rfl ([.slice a n c]) ((hA.blk.rd)) (rfl) ?_)
        | fail)
      (with_reducible refine (hrA _ hA.ib).mono ?_)
      rintro e w6 ⟨a6, n6, c6, rfl, hI6, hc6, hx⟩
      have hA := hA.ext hx
      have hB := hB.ext hx
      have hE := hE.trans hx
      clear hx
      go_wp2_with (first
        | (refine wpList_store_arr (RR1) rfl _ _ rfl (gA) (0) rfl ([.slice a6 n6 c6]) rfl (57) _ (hA.blk) (rfl) (by simp) (by first | exact one_u8 _ | (simp; done) | (simp; (repeat' (first | rfl | constructor)))) ?_; intro w7 hA7 hM7); (have hB7 := hB.muts hA.blk (no1 _ _ _) hM7 (by omega))
        | (refine wpList_load_arr (RR1) rfl _ rfl (gB) (0) rfl ([.slice b m d]) ((hB7.blk.rd)) (rfl) ?_)
        | fail)
      have hA : RB 57 (rots R0 (k + 1)) a6 n6 c6 gA w7 := ⟨hA7, hI6.muts hA.blk (no1 _ _ _) hM7, hc6⟩
      have hE := endM hE (Ext.refl _) hM7 hgw
      (with_reducible refine (hrB _ hB7.ib).mono ?_)
      rintro e w8 ⟨a8, n8', c8, rfl, hI8, hc8, hx⟩
      have hA := hA.ext hx
      have hB := hB7.ext hx
      have hE := hE.trans hx
      clear hx hM7 hA7 hB7
      go_wp2_with (first
        | (refine wpList_store_arr (RR1) rfl _ _ rfl (gB) (0) rfl ([.slice a8 n8' c8]) rfl (57) _ (hB.blk) (rfl) (by simp) (by first | exact one_u8 _ | (simp; done) | (simp; (repeat' (first | rfl | constructor)))) ?_; intro w9 hB9 hM9)
        | fail)
      go_roundw
      case rel => exact ⟨k + 1, a6, n6, c6, a8, n8', c8, by omega, by go_num, rfl, rfl, hA.muts hB.blk (no1 _ _ _) hM9 (by omega), ⟨hB9, hI8.muts hB.blk (no1 _ _ _) hM9, hc8⟩, endM hE (Ext.refl _) hM9 (by omega)⟩
      case measure => simp [intOf]; omega
    · obtain rfl : k = t := by omega
      have hki : ¬ (k : Int) < (k : Int) := by omega
      subst hnl hml
      generalize rots R0 k = R at *
      have hIA := hA.ib
      have hIB := hB.ib
      have hcA := hA.le
      have hcB := hB.le
      go_wp2_with fail
      refine wp_region_vague 20 [[], [0], [0, 1], [0, 1, 2], [0, 1, 2, 3], [0, 1, 2, 3, 4], [0, 1, 2, 3, 4, 5], [0, 1, 2, 3, 4, 5, 6], [0, 1, 2, 3, 4, 5, 6], [0, 1, 2, 3, 4, 5, 6, 7, 8], [0, 1, 2, 3, 4, 5, 6, 7, 8, 9], [0, 1, 2, 3, 4, 5, 6, 7, 8, 9, 10], [0, 1, 2, 3, 4, 5, 6, 7, 8, 9, 10, 11], [0, 1, 2, 3, 4, 5, 6, 7, 8, 9, 10, 11, 12], [0, 1, 2, 3, 4, 5, 6, 7, 8, 9, 10, 11, 12], [0, 1, 2, 3, 4, 5, 6, 7, 8, 9, 10, 11, 12], [0, 1, 2, 3, 4, 5, 6, 7, 8, 9, 10, 11, 12, 14, 15], [0, 1, 2, 3, 4, 5, 6, 7, 8, 9, 10, 11, 12, 13, 14, 15, 16], [0, 1, 2, 3, 4, 5, 6, 7, 8, 9, 10, 11, 12, 13, 14, 15, 16, 17], [0, 1, 2, 3, 4, 5, 6, 7, 8, 9, 10, 11, 12, 13, 14, 15, 16, 17, 18]] (by kernel_rfl) (by kernel_rfl) (by kernel_rfl) (by kernel_rfl) ?_; simp only [List.take_succ_cons, List.take_zero, List.drop_succ_cons, List.drop_zero, List.take_nil, List.drop_nil]
      (repeat (apply VD_der; (case h => (intro us w' hx hf; obtain ⟨x, rfl⟩ := hx.out; refine ⟨rfl, ?_⟩; simp [go_sem, execOp, *]; (try simp (disch := omega) only [Go.IntWalk.i64_in, Go.IntWalk.rem_in, Go.IntWalk.wrap64_in]); rfl)); (try simp only [Act.put, List.setIfInBounds_toArray, List.set_cons_succ, List.set_cons_zero])))
      (refine VD_load_arr (RR1) _ rfl (fun _ => rfl) (gA) (0) (fun _ => by simp [go_sem]) ([.slice a R.length c]) (hA.blk.rd) (rfl) ?_)
      (refine VD_load_arr (RR1) _ rfl (fun _ => rfl) (gB) (0) (fun _ => by simp [go_sem]) ([.slice b R.length d]) (hB.blk.rd) (rfl) ?_)
      (refine VD_vag (fun _ => .bool true) (fun _ _ => True) (fun _ _ _ _ _ => trivial) (fun us w' hx hf => ⟨rfl, ?_⟩) ?_; (unfold gives; simp [go_sem, execOp]; refine (cksame_any a b R.length c d R _ (hIA.ext hx) (hIB.ext hx) (by omega)).mono ?_; rintro e w1 ⟨rfl, hx1⟩; first | exact ⟨rfl, hx1⟩ | simpa using hx1))
      (repeat (apply VD_der; (case h => (intro us w' hx hf; obtain ⟨x, rfl⟩ := hx.out; refine ⟨rfl, ?_⟩; simp [go_sem, execOp, *]; (try simp (disch := omega) only [Go.IntWalk.i64_in, Go.IntWalk.rem_in, Go.IntWalk.wrap64_in]); rfl)); (try simp only [Act.put, List.setIfInBounds_toArray, List.set_cons_succ, List.set_cons_zero])))
      (refine VD_load_arr (RR1) _ rfl (fun _ => rfl) (gA) (0) (fun _ => by simp [go_sem]) ([.slice a R.length c]) (hA.blk.rd) (rfl) ?_)
      (repeat (apply VD_der; (case h => (intro us w' hx hf; obtain ⟨x, rfl⟩ := hx.out; refine ⟨rfl, ?_⟩; simp [go_sem, execOp, *]; (try simp (disch := omega) only [Go.IntWalk.i64_in, Go.IntWalk.rem_in, Go.IntWalk.wrap64_in]); rfl)); (try simp only [Act.put, List.setIfInBounds_toArray, List.set_cons_succ, List.set_cons_zero])))
      (refine VD_vag (fun p => .agg #[.slice (p 0).1 R.length (p 0).2]) (fun p w'' => Ib w'' (p 0).1 R.length R) (fun p w w' h hx => by first | exact h.ext hx | exact ⟨h.1.ext hx, h.2.ext hx⟩ | exact ⟨h.1.ext hx, h.2⟩ | exact ⟨h.1.ext hx, h.2.1.ext hx, h.2.2.ext hx⟩) (fun us w' hx hf => ⟨rfl, ?_⟩) ?_; (unfold gives; simp [go_sem, execOp]; exact vag_ring (hrg _)))
      (refine VD_vag (fun _ => .bool true) (fun _ _ => True) (fun _ _ _ _ _ => trivial) (fun us w' hx hf => ⟨rfl, ?_⟩) ?_; (unfold gives; simp [go_sem, execOp]; refine (cksame_any a _ R.length c _ R _ (hIA.ext hx) (hf _ (List.mem_append_right _ (List.mem_singleton_self _)) rfl) (by omega)).mono ?_; rintro e w1 ⟨rfl, hx1⟩; first | exact ⟨rfl, hx1⟩ | simpa using hx1))
      (repeat (apply VD_der; (case h => (intro us w' hx hf; obtain ⟨x, rfl⟩ := hx.out; refine ⟨rfl, ?_⟩; simp [go_sem, execOp, *]; (try simp (disch := omega) only [Go.IntWalk.i64_in, Go.IntWalk.rem_in, Go.IntWalk.wrap64_in]); rfl)); (try simp only [Act.put, List.setIfInBounds_toArray, List.set_cons_succ, List.set_cons_zero])))
      (refine VD_nil ?_; intro us w' hx hf; obtain ⟨x, rfl⟩ := hx.out; (try simp only [Act.put, List.setIfInBounds_toArray, List.set_cons_succ, List.set_cons_zero, wpList_none]); (try simp only [List.mem_cons, List.not_mem_nil, or_false, forall_eq_or_imp, forall_eq, List.nil_append, List.cons_append, List.mem_append, false_or, true_and, and_true] at hf); (try simp only [Nat.reduceAdd, Nat.zero_add] at hf); (try simp only [Nat.reduceAdd, Nat.zero_add]))
      obtain ⟨W, hW⟩ : ∃ V, V = wr.ext x := ⟨_, rfl⟩
      have hxW : Ext wr W := by rw [hW]; exact Ext.of_ext _ _
      rw [← hW]
      have hA := hA.ext hxW
      have hB := hB.ext hxW
      have hE := hE.trans hxW
      have hIA := hA.ib
      have hIB := hB.ib
      clear hf hW hxW hrg
      go_wp2_with fail
      refine wp_region_vague 11 [[], [], [], [1, 2], [1, 2, 3], [0, 1, 2, 3, 4], [0, 1, 2, 3, 4, 5], [0, 1, 2, 3, 4, 5, 6], [0, 1, 2, 3, 4, 5, 6], [0, 1, 2, 3, 4, 5, 6, 7], [0, 1, 2, 3, 4, 5, 6, 7, 8, 9]] (by kernel_rfl) (by kernel_rfl) (by kernel_rfl) (by kernel_rfl) ?_; simp only [List.take_succ_cons, List.take_zero, List.drop_succ_cons, List.drop_zero, List.take_nil, List.drop_nil]
      (refine VD_load_arr (RR1) _ rfl (fun _ => rfl) (gA) (0) (fun _ => by simp [go_sem]) ([.slice a R.length c]) (hA.blk.rd) (rfl) ?_)
      (refine VD_vag (fun p => .agg #[.slice (p 0).1 32 (p 0).2, .slice (p 1).1 32 (p 1).2]) (fun p w'' => PS up dn (p 0) (p 1) w'') (fun p w w' h hx => by first | exact h.ext hx | exact ⟨h.1.ext hx, h.2.ext hx⟩ | exact ⟨h.1.ext hx, h.2⟩ | exact ⟨h.1.ext hx, h.2.1.ext hx, h.2.2.ext hx⟩) (fun us w' hx hf => ⟨rfl, ?_⟩) ?_; (unfold gives; simp [go_sem, execOp]; exact vag_pair (hpr _)))
      (repeat (apply VD_der; (case h => (intro us w' hx hf; obtain ⟨x, rfl⟩ := hx.out; refine ⟨rfl, ?_⟩; simp [go_sem, execOp, *]; (try simp (disch := omega) only [Go.IntWalk.i64_in, Go.IntWalk.rem_in, Go.IntWalk.wrap64_in]); rfl)); (try simp only [Act.put, List.setIfInBounds_toArray, List.set_cons_succ, List.set_cons_zero])))
      (refine VD_vag (fun _ => .int .i64 (nn : Int)) (fun _ _ => True) (fun _ _ _ _ _ => trivial) (fun us w' hx hf => ⟨rfl, ?_⟩) ?_; (unfold gives; simp [go_sem, execOp]; refine (hn _).mono ?_; rintro e w1 ⟨rfl, hx1⟩; first | exact ⟨rfl, hx1⟩ | simpa using hx1))
      (refine VD_vag (fun p => .slice (p 0).1 (16) (p 0).2) (fun p w'' => Own w'' 0 (p 0).1 (16) (p 0).2 (nb)) (fun p w w' h hx => h.ext hx) (fun us w' hx hf => ⟨rfl, ?_⟩) ?_; (unfold gives; simp [go_sem, execOp]; exact vag_fresh (Nat.zero_le _) (hnb _)))
      (refine VD_vag (fun p => .tuple #[.slice (p 0).1 (104) (p 0).2, .int .i64 0]) (fun p w'' => Sl w'' (p 0).1 (104) (CK) ∧ (104) ≤ (p 0).2) (fun p w w' h hx => ⟨h.1.ext hx, h.2⟩) (fun us w' hx hf => ⟨rfl, ?_⟩) ?_; (unfold gives; simp [go_sem, execOp]; exact vag_read (hmk _ _ _ _ _ _ _ _ _ _ (hIA.ext hx) hcA (hf _ (List.mem_append_left _ (List.mem_append_left _ (List.mem_append_right _ (List.mem_singleton_self _)))) rfl).1 (hf _ (List.mem_append_left _ (List.mem_append_left _ (List.mem_append_right _ (List.mem_singleton_self _)))) rfl).2.1 (hf _ (List.mem_append_left _ (List.mem_append_left _ (List.mem_append_right _ (List.mem_singleton_self _)))) rfl).2.2.1 (hf _ (List.mem_append_left _ (List.mem_append_left _ (List.mem_append_right _ (List.mem_singleton_self _)))) rfl).2.2.2 ((hf _ (List.mem_append_right _ (List.mem_singleton_self _)) rfl)).sl ((hf _ (List.mem_append_right _ (List.mem_singleton_self _)) rfl)).le.1)))
      (repeat (apply VD_der; (case h => (intro us w' hx hf; obtain ⟨x, rfl⟩ := hx.out; refine ⟨rfl, ?_⟩; simp [go_sem, execOp, *]; (try simp (disch := omega) only [Go.IntWalk.i64_in, Go.IntWalk.rem_in, Go.IntWalk.wrap64_in]); rfl)); (try simp only [Act.put, List.setIfInBounds_toArray, List.set_cons_succ, List.set_cons_zero])))
      (refine VD_nil ?_; intro us w' hx hf; obtain ⟨x, rfl⟩ := hx.out; (try simp only [Act.put, List.setIfInBounds_toArray, List.set_cons_succ, List.set_cons_zero, wpList_none]); (try simp only [List.mem_cons, List.not_mem_nil, or_false, forall_eq_or_imp, forall_eq, List.nil_append, List.cons_append, List.mem_append, false_or, true_and, and_true] at hf); (try simp only [Nat.reduceAdd, Nat.zero_add] at hf); (try simp only [Nat.reduceAdd, Nat.zero_add]))
      obtain ⟨_, _, hSk, hck⟩ := hf
      obtain ⟨ak, hak⟩ : ∃ a, (us 5 0).1 = a := ⟨_, rfl⟩
      obtain ⟨ck, hcke⟩ : ∃ a, (us 5 0).2 = a := ⟨_, rfl⟩
      rw [hak] at hSk ⊢
      rw [hcke] at hck ⊢
      obtain ⟨V, hV⟩ : ∃ V, V = W.ext x := ⟨_, rfl⟩
      rw [← hV] at hSk ⊢
      have hxV : Ext W V := by rw [hV]; exact Ext.of_ext _ _
      have hA := hA.ext hxV
      have hB := hB.ext hxV
      have hE := hE.trans hxV
      have hIA := hA.ib
      have hIB := hB.ib
      clear hV hak hcke
      clear hxV
      obtain ⟨W, hW⟩ : ∃ W0, W0 = V := ⟨_, rfl⟩
      rw [← hW] at hSk hA hB hE hIA hIB ⊢
      clear hW
      go_wp2_with fail
      refine wp_region_vague 11 [[], [], [], [1, 2], [1, 2, 3], [0, 1, 2, 3, 4], [0, 1, 2, 3, 4, 5], [0, 1, 2, 3, 4, 5, 6], [0, 1, 2, 3, 4, 5, 6], [0, 1, 2, 3, 4, 5, 6, 7], [0, 1, 2, 3, 4, 5, 6, 7, 8, 9]] (by kernel_rfl) (by kernel_rfl) (by kernel_rfl) (by kernel_rfl) ?_; simp only [List.take_succ_cons, List.take_zero, List.drop_succ_cons, List.drop_zero, List.take_nil, List.drop_nil]
      (refine VD_load_arr (RR1) _ rfl (fun _ => rfl) (gB) (0) (fun _ => by simp [go_sem]) ([.slice b R.length d]) (hB.blk.rd) (rfl) ?_)
      (refine VD_vag (fun p => .agg #[.slice (p 0).1 32 (p 0).2, .slice (p 1).1 32 (p 1).2]) (fun p w'' => PS up dn (p 0) (p 1) w'') (fun p w w' h hx => by first | exact h.ext hx | exact ⟨h.1.ext hx, h.2.ext hx⟩ | exact ⟨h.1.ext hx, h.2⟩ | exact ⟨h.1.ext hx, h.2.1.ext hx, h.2.2.ext hx⟩) (fun us w' hx hf => ⟨rfl, ?_⟩) ?_; (unfold gives; simp [go_sem, execOp]; exact vag_pair (hpr _)))
      (repeat (apply VD_der; (case h => (intro us w' hx hf; obtain ⟨x, rfl⟩ := hx.out; refine ⟨rfl, ?_⟩; simp [go_sem, execOp, *]; (try simp (disch := omega) only [Go.IntWalk.i64_in, Go.IntWalk.rem_in, Go.IntWalk.wrap64_in]); rfl)); (try simp only [Act.put, List.setIfInBounds_toArray, List.set_cons_succ, List.set_cons_zero])))
      (refine VD_vag (fun _ => .int .i64 (nn : Int)) (fun _ _ => True) (fun _ _ _ _ _ => trivial) (fun us w' hx hf => ⟨rfl, ?_⟩) ?_; (unfold gives; simp [go_sem, execOp]; refine (hn _).mono ?_; rintro e w1 ⟨rfl, hx1⟩; first | exact ⟨rfl, hx1⟩ | simpa using hx1))
      (refine VD_vag (fun p => .slice (p 0).1 (16) (p 0).2) (fun p w'' => Own w'' 0 (p 0).1 (16) (p 0).2 (nb)) (fun p w w' h hx => h.ext hx) (fun us w' hx hf => ⟨rfl, ?_⟩) ?_; (unfold gives; simp [go_sem, execOp]; exact vag_fresh (Nat.zero_le _) (hnb _)))
      (refine VD_vag (fun p => .tuple #[.slice (p 0).1 (104) (p 0).2, .int .i64 0]) (fun p w'' => Sl w'' (p 0).1 (104) (CK) ∧ (104) ≤ (p 0).2) (fun p w w' h hx => ⟨h.1.ext hx, h.2⟩) (fun us w' hx hf => ⟨rfl, ?_⟩) ?_; (unfold gives; simp [go_sem, execOp]; exact vag_read (hmk _ _ _ _ _ _ _ _ _ _ (hIB.ext hx) hcB (hf _ (List.mem_append_left _ (List.mem_append_left _ (List.mem_append_right _ (List.mem_singleton_self _)))) rfl).1 (hf _ (List.mem_append_left _ (List.mem_append_left _ (List.mem_append_right _ (List.mem_singleton_self _)))) rfl).2.1 (hf _ (List.mem_append_left _ (List.mem_append_left _ (List.mem_append_right _ (List.mem_singleton_self _)))) rfl).2.2.1 (hf _ (List.mem_append_left _ (List.mem_append_left _ (List.mem_append_right _ (List.mem_singleton_self _)))) rfl).2.2.2 ((hf _ (List.mem_append_right _ (List.mem_singleton_self _)) rfl)).sl ((hf _ (List.mem_append_right _ (List.mem_singleton_self _)) rfl)).le.1)))
      (repeat (apply VD_der; (case h => (intro us w' hx hf; obtain ⟨x, rfl⟩ := hx.out; refine ⟨rfl, ?_⟩; simp [go_sem, execOp, *]; (try simp (disch := omega) only [Go.IntWalk.i64_in, Go.IntWalk.rem_in, Go.IntWalk.wrap64_in]); rfl)); (try simp only [Act.put, List.setIfInBounds_toArray, List.set_cons_succ, List.set_cons_zero])))
      (refine VD_nil ?_; intro us w' hx hf; obtain ⟨x, rfl⟩ := hx.out; (try simp only [Act.put, List.setIfInBounds_toArray, List.set_cons_succ, List.set_cons_zero, wpList_none]); (try simp only [List.mem_cons, List.not_mem_nil, or_false, forall_eq_or_imp, forall_eq, List.nil_append, List.cons_append, List.mem_append, false_or, true_and, and_true] at hf); (try simp only [Nat.reduceAdd, Nat.zero_add] at hf); (try simp only [Nat.reduceAdd, Nat.zero_add]))
      obtain ⟨_, _, hTk, hdk⟩ := hf
      obtain ⟨bk, hak⟩ : ∃ a, (us 5 0).1 = a := ⟨_, rfl⟩
      obtain ⟨dk, hcke⟩ : ∃ a, (us 5 0).2 = a := ⟨_, rfl⟩
      rw [hak] at hTk ⊢
      rw [hcke] at hdk ⊢
      obtain ⟨V, hV⟩ : ∃ V, V = W.ext x := ⟨_, rfl⟩
      rw [← hV] at hTk ⊢
      have hxV : Ext W V := by rw [hV]; exact Ext.of_ext _ _
      have hA := hA.ext hxV
      have hB := hB.ext hxV
      have hE := hE.trans hxV
      have hIA := hA.ib
      have hIB := hB.ib
      clear hV hak hcke
      have hSk := hSk.ext hxV
      clear hxV
      go_wp2_with (first
        | (refine wpList_load_arr (RR1) rfl _ rfl (gB) (0) rfl ([.slice b R.length d]) ((hB.blk.rd)) (rfl) ?_)
        | fail)
      (with_reducible refine (hop _ _ _ _ _ _ hIB hcB (by omega) hSk hck).mono ?_)
      rintro e w2 ⟨au, nu, cu, ad, nd, cd, rfl, hu, hcu, hd, hcd, hx⟩
      have hSk := hSk.ext hx
      have hTk := hTk.ext hx
      have hE := hE.trans hx
      have hQ0 := Blk.new w2 #[.slice none 0 0, .slice none 0 0] 39
      go_wp2_with (first
        | (refine wpList_store_arr (RP2) rfl _ _ rfl (w2.heap.size) (0) rfl ([.slice au nu cu, .slice ad nd cd]) rfl (39) _ (hQ0) (rfl) (by simp) (by first | exact one_u8 _ | (simp; done) | (simp; (repeat' (first | rfl | constructor)))) ?_; intro w8 hQ hM8)
        | fail)
      have hx8 : Ext w2 (w2.alloc (.cells #[.slice none 0 0, .slice none 0 0] 39)) := Ext.of_alloc _ _
      have hu := (hu.ext hx8).muts hQ0 (no2 _ _ _ _ _ _) hM8
      have hd := (hd.ext hx8).muts hQ0 (no2 _ _ _ _ _ _) hM8
      have hSk := (hSk.ext hx8).muts hQ0 (no2 _ _ _ _ _ _) hM8
      have hTk := (hTk.ext hx8).muts hQ0 (no2 _ _ _ _ _ _) hM8
      have hE := endM hE hx8 hM8 hE.size
      have hQ : Blk w8 w2.heap.size 39 [.slice au nu cu, .slice ad nd cd] := hQ
      have hsm := fun V H1 H2 => same_any ak bk 104 ck 104 dk CK CK V H1 H2
      simp only [beq_self_eq_true] at hsm
      clear hM8 hQ0 hx8 hx hA hB hIA hIB
      refine wp_region_vague 24 [[], [0], [0, 1], [0, 1, 2], [0, 1, 2, 3], [0, 1, 2, 3, 4], [0, 1, 2, 3, 4, 5], [0, 1, 2, 3, 4, 5, 6], [0, 1, 2, 3, 4, 5, 6, 7], [0, 1, 2, 3, 4, 5, 6, 7, 8], [0, 1, 2, 3, 4, 5, 6, 7, 8, 9], [0, 1, 2, 3, 4, 5, 6, 7, 8, 9, 10], [0, 1, 2, 3, 4, 5, 6, 7, 8, 9, 10, 11], [0, 1, 2, 3, 4, 5, 6, 7, 8, 9, 10, 11, 12], [0, 1, 2, 3, 4, 5, 6, 7, 8, 9, 10, 11, 12, 13], [0, 1, 2, 3, 4, 5, 6, 7, 8, 9, 10, 11, 12, 13], [0, 1, 2, 3, 4, 5, 6, 7, 8, 9, 10, 11, 12, 13, 14, 15], [0, 1, 2, 3, 4, 5, 6, 7, 8, 9, 10, 11, 12, 13, 14, 15, 16], [0, 1, 2, 3, 4, 5, 6, 7, 8, 9, 10, 11, 12, 13, 14, 15, 16, 17], [0, 1, 2, 3, 4, 5, 6, 7, 8, 9, 10, 11, 12, 13, 14, 15, 16, 17, 18], [0, 1, 2, 3, 4, 5, 6, 7, 8, 9, 10, 11, 12, 13, 14, 15, 16, 17, 18], [0, 1, 2, 3, 4, 5, 6, 7, 8, 9, 10, 11, 12, 13, 14, 15, 16, 17, 18, 19, 20], [0, 1, 2, 3, 4, 5, 6, 7, 8, 9, 10, 11, 12, 13, 14, 15, 16, 17, 18, 19, 20, 21], [0, 1, 2, 3, 4, 5, 6, 7, 8, 9, 10, 11, 12, 13, 14, 15, 16, 17, 18, 19, 20, 21, 22]] (by kernel_rfl) (by kernel_rfl) (by kernel_rfl) (by kernel_rfl) ?_; simp only [List.take_succ_cons, List.take_zero, List.drop_succ_cons, List.drop_zero, List.take_nil, List.drop_nil]
      (refine VD_vag (fun _ => .bool true) (fun _ _ => True) (fun _ _ _ _ _ => trivial) (fun us w' hx hf => ⟨rfl, ?_⟩) ?_; (unfold gives; simp [go_sem, execOp]; refine (hkn _).mono ?_; rintro e w1 ⟨rfl, hx1⟩; first | exact ⟨rfl, hx1⟩ | simpa using hx1))
      (repeat (apply VD_der; (case h => (intro us w' hx hf; obtain ⟨x, rfl⟩ := hx.out; refine ⟨rfl, ?_⟩; simp [go_sem, execOp, *]; (try simp (disch := omega) only [Go.IntWalk.i64_in, Go.IntWalk.rem_in, Go.IntWalk.wrap64_in]); rfl)); (try simp only [Act.put, List.setIfInBounds_toArray, List.set_cons_succ, List.set_cons_zero])))
      (refine VD_vag (fun _ => .bool true) (fun _ _ => True) (fun _ _ _ _ _ => trivial) (fun us w' hx hf => ⟨rfl, ?_⟩) ?_; (unfold gives; simp [go_sem, execOp]; refine (hsm _ (hSk.ext hx) (hTk.ext hx)).mono ?_; rintro e w1 ⟨rfl, hx1⟩; first | exact ⟨rfl, hx1⟩ | simpa using hx1))
      (repeat (apply VD_der; (case h => (intro us w' hx hf; obtain ⟨x, rfl⟩ := hx.out; refine ⟨rfl, ?_⟩; simp [go_sem, execOp, *]; (try simp (disch := omega) only [Go.IntWalk.i64_in, Go.IntWalk.rem_in, Go.IntWalk.wrap64_in]); rfl)); (try simp only [Act.put, List.setIfInBounds_toArray, List.set_cons_succ, List.set_cons_zero])))
      (refine VD_load_arr (RP2) _ rfl (fun _ => rfl) (w2.heap.size) (0) (fun _ => by simp [go_sem]) ([.slice au nu cu, .slice ad nd cd]) (hQ.rd) (rfl) ?_)
      (refine VD_vag (fun p => .agg #[.slice (p 0).1 32 (p 0).2, .slice (p 1).1 32 (p 1).2]) (fun p w'' => PS up dn (p 0) (p 1) w'') (fun p w w' h hx => by first | exact h.ext hx | exact ⟨h.1.ext hx, h.2.ext hx⟩ | exact ⟨h.1.ext hx, h.2⟩ | exact ⟨h.1.ext hx, h.2.1.ext hx, h.2.2.ext hx⟩) (fun us w' hx hf => ⟨rfl, ?_⟩) ?_; (unfold gives; simp [go_sem, execOp]; exact vag_pair (hpr _)))
      (refine VD_vag (fun _ => .bool true) (fun _ _ => True) (fun _ _ _ _ _ => trivial) (fun us w' hx hf => ⟨rfl, ?_⟩) ?_; (unfold gives; simp [go_sem, execOp]; refine (ckpair_any _ _ _ _ _ _ _ _ _ _ _ _ up dn _ (hu.ext hx) (hd.ext hx) ((hf _ (List.mem_append_right _ (List.mem_singleton_self _)) rfl)).1 ((hf _ (List.mem_append_right _ (List.mem_singleton_self _)) rfl)).2.2.1).mono ?_; rintro e w1 ⟨rfl, hx1⟩; first | exact ⟨rfl, hx1⟩ | simpa using hx1))
      (repeat (apply VD_der; (case h => (intro us w' hx hf; obtain ⟨x, rfl⟩ := hx.out; refine ⟨rfl, ?_⟩; simp [go_sem, execOp, *]; (try simp (disch := omega) only [Go.IntWalk.i64_in, Go.IntWalk.rem_in, Go.IntWalk.wrap64_in]); rfl)); (try simp only [Act.put, List.setIfInBounds_toArray, List.set_cons_succ, List.set_cons_zero])))
      (refine VD_nil ?_; intro us w' hx hf; obtain ⟨x, rfl⟩ := hx.out; (try simp only [Act.put, List.setIfInBounds_toArray, List.set_cons_succ, List.set_cons_zero, wpList_none]); (try simp only [List.mem_cons, List.not_mem_nil, or_false, forall_eq_or_imp, forall_eq, List.nil_append, List.cons_append, List.mem_append, false_or, true_and, and_true] at hf); (try simp only [Nat.reduceAdd, Nat.zero_add] at hf); (try simp only [Nat.reduceAdd, Nat.zero_add]))
      go_wp2_with fail
      go_ret
      exact ⟨rfl, hE.ext x⟩
end Go.Proofs.Ytkjdlbjbppbmdaa
