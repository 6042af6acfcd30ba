/- Lemmas of this claim, several texts joined. -/
import Derived.Test.YtbfgeokngekdmaaGreatZ35
set_option linter.unusedVariables false
set_option linter.unusedSimpArgs false
/- Layer 19: the sanity check. -/
namespace Go.Sec
open Go.RowKit
/-- Two keys. -/
def PS (u v : List UInt8) (x y : SC) (w : World) : Prop := Sl w x.1 32 u ∧ 32 ≤ x.2 ∧ Sl w y.1 32 v ∧ 32 ≤ y.2
theorem PS.ext {u v : List UInt8} {x y : SC} {w w' : World} (h : PS u v x y w) (hx : Ext w w') : PS u v x y w' := ⟨h.1.ext hx, h.2.1, h.2.2.1.ext hx, h.2.2.2⟩
end Go.Sec
namespace Go.Proofs.YtbfgeokngekdmaaGreat
open Go.RowKit Go.Sec Go.Oct Go.Sha Go.Aes Go.Cook Go.Chan BigFrame

theorem vag_pair {f : FuncId} {args : Array Value} {w : World} {u v : List UInt8} (h : Calls Tryz.prog f args w (PairP u v w)) :
    Calls Tryz.prog f args w fun e w' => ∃ x, e = .returned x ∧ ∃ p : Par, x = .agg #[.slice (p 0).1 32 (p 0).2, .slice (p 1).1 32 (p 1).2] ∧ Ext w w' ∧ PS u v (p 0) (p 1) w' :=
  h.mono fun _ _ ⟨a, c, b, d, he, h1, h2, h3, h4, hx⟩ => ⟨_, he, fun i => if i = 0 then (a, c) else (b, d), rfl, hx, h1, h2, h3, h4⟩
theorem cmake_ok (r : Ring) (algo : Int) (up down nonce : List UInt8) (hv : validR r = true) (h0 : 0 ≤ algo) (h1 : algo ≤ 65535) (a u v b : Option Addr) (n c cu cv cn : Nat) (w : World) (hI : Ib w a n r) (hnc : n ≤ c) (hu : Sl w u 32 up) (hcu : 32 ≤ cu) (hv' : Sl w v 32 down) (hcv : 32 ≤ cv) (hb : Sl w b 16 nonce) (hcn : 16 ≤ cn) :
    Calls Tryz.prog 33 #[.agg #[.slice a n c], .int .i64 algo, .agg #[.slice u 32 cu, .slice v 32 cv], .slice b 16 cn] w (Read2 104 (cookC (hd r) algo up down nonce) (.int .i64 0) w) := by
  obtain ⟨v1, _, v3, v4⟩ := validR_iff.1 hv
  have hl := hI.len
  have := cmake_any a u v b n c 32 cu 32 cv 16 cn r algo up down nonce w hI hnc (by omega) hu hcu hv' hcv hb hcn
  rw [makeE_ok hv h0 h1 hu.len hv'.len hb.len] at this
  obtain ⟨k0, k1, k2⟩ := v1 _ (hd_mem v3)
  have hc := (cookC_parts (m := hd r) (algo := algo) k0 k1 k2 hb.len hu.len hv'.len).1
  unfold BytesP at this
  simp only [hc] at this
  exact this
theorem copen_ok (r : Ring) (o : Opened) (l : List UInt8) (he : openR r l = o) (a b : Option Addr) (n c nk ck : Nat) (w : World) (hI : Ib w a n r) (hnc : n ≤ c) (hn : n ≤ 1000000) (hb : Sl w b nk l) (hck : nk ≤ ck) :
    Calls Tryz.prog 10 #[.agg #[.slice a n c], .slice b nk ck] w (OpenP o w) := by
  have := copen_any a b n c nk ck r l w hI hnc hn hb hck
  rwa [he] at this
def zero32 : List UInt8 := List.replicate 32 0
theorem zeros32 (w : World) : Sl (w.alloc (.cells (zerosOf (.int .u8 0) 32) 5)) (some ⟨w.heap.size, 0, none⟩) 32 zero32 := (blk_zeros8 w 32).sl rfl
theorem make32 (w : World) : (Instr.makeSlice 27 (.int .i64 32) (.int .i64 32)).run Tryz.prog w = .ok (.slice (some ⟨w.heap.size, 0, none⟩) 32 32) (w.alloc (.cells (zerosOf (.int .u8 0) 32) 5)) :=
  run_make_by U 32 32 (by omega) (by omega) w
theorem known19_pure : ∃ CK : List UInt8, cookC (hd (ring0 7 zero32)) 15 (upP 1) (dnP 1) zero16 = CK ∧ CK.length = 104 ∧ openR (ring0 7 zero32) CK = ⟨15, upP 1, dnP 1, 0, 0⟩ ∧ openR (rots (ring0 7 zero32) 4) CK = ⟨0, [], [], 0, 5⟩ := by
  have hf := fun t ht => ring0_facts 7 zero32 (by omega) t ht
  obtain ⟨v0, _, _, v3⟩ := hf 0 (by omega)
  obtain ⟨v4, _, _, _⟩ := hf 4 (by omega)
  have v0 : validR (ring0 7 zero32) = true := v0
  obtain ⟨k0, k1, k2⟩ := (validR_iff.1 v0).1 _ (hd_mem (validR_iff.1 v0).2.2.1)
  obtain ⟨c1, _, _, _, c5⟩ := cookC_parts (m := hd (ring0 7 zero32)) (algo := 15) (up := upP 1) (down := dnP 1) (nonce := zero16) k0 k1 k2 (by decide) (upP_length 1) (dnP_length 1)
  refine ⟨_, rfl, c1, open_make (i := 0) v0 rfl (by omega) (by omega) (by decide) (upP_length 1) (dnP_length 1), open_gone v4 c1 fun m hm => ?_⟩
  rw [c5]
  have := rots4_ids (fine0 7 zero32 (by omega)) 4 (by omega) (by show ((7 : Nat) : Int) + _ ≤ _; omega) m hm
  omega
set_option maxRecDepth 100000 in
set_option maxHeartbeats 8000000 in
theorem known19_any (w : World) : Calls Tryz.prog 12 #[] w fun e w' => e = .returned (.bool true) ∧ Ext w w' := by
  obtain ⟨CK, hCK, hCl, ho1, ho2⟩ := known19_pure
  have hf := fun t ht => ring0_facts 7 zero32 (by omega) t ht
  have hst := fun a c W H1 H2 => cstart_any 7 a 32 c zero32 W H1 H2
  rw [show startE 7 zero32 = (ring0 7 zero32, 0) from startE_ok (s := 7) (by omega) (by decide)] at hst
  have v0 : validR (ring0 7 zero32) = true := (hf 0 (by omega)).1
  have hmk := fun a u v b n c cu cv cn W H1 H2 H3 H4 H5 H6 H7 H8 => cmake_ok (ring0 7 zero32) 15 (upP 1) (dnP 1) zero16 v0 (by omega) (by omega) a u v b n c cu cv cn W H1 H2 H3 H4 H5 H6 H7 H8
  rw [hCK] at hmk
  have hpr := fun W => wpair_any 1 (show (1 : Int) = ((1 : Nat) : Int) from rfl) W (by omega)
  have hop1 := fun a b n c ck W H1 H2 H3 H4 H5 => copen_ok _ _ CK ho1 a b n c 104 ck W H1 H2 H3 H4 H5
  have hop2 := fun a b n c ck W H1 H2 H3 H4 H5 => copen_ok _ _ CK ho2 a b n c 104 ck W H1 H2 H3 H4 H5
  have hl0 := hf 0 (by omega)
  have hm32 := make32
  have hm16 := make16
  obtain ⟨R0, hR0⟩ : ∃ R, ring0 7 zero32 = R := ⟨_, rfl⟩
  obtain ⟨up, hup⟩ : ∃ R, upP 1 = R := ⟨_, rfl⟩
  obtain ⟨dn, hdn⟩ : ∃ R, dnP 1 = R := ⟨_, rfl⟩
  rw [hR0] at hst hmk hop1 hop2 hf
  rw [hup, hdn] at hmk hop1 hpr
  clear ho1 ho2 hCK v0 hup hdn hl0
  go_enter Tryz.func12, Tryz.ntmps12
  go_wp2_with fail
  (with_reducible refine (hst _ _ _ (zeros32 _) (Nat.le_refl _)).mono ?_)
  rintro e w1 ⟨a1, n1, c1, rfl, hI1, hc1, hx1⟩
  have hE1 : Ext w w1 := (Ext.of_alloc _ _).trans hx1
  go_wp2_with (first
    | (refine wpList_alloc_store (RR1) rfl rfl _ _ rfl rfl rfl rfl (by simp [Act.put]) ([.slice a1 n1 c1]) rfl (by simp) (rfl) ((by simp; repeat' (first | rfl | constructor))) ?_; intro x hz _)
    | fail)
  obtain ⟨W, hW⟩ : ∃ W, W = w1.ext x := ⟨_, rfl⟩
  have hxW : Ext w1 W := by rw [hW]; exact (by repeat (first | (with_reducible first | exact Ext.refl _ | assumption | apply Ext.alloc | apply Ext.ext | apply Ext.drew | refine Ext.setCell ?_ ?_ _) | (focus (simp [go_sem]; done))))
  rw [← hW] at hz ⊢
  obtain ⟨g1, hg1⟩ : ∃ g, g = w1.heap.size := ⟨_, rfl⟩
  have hg1w : w.heap.size ≤ g1 := by rw [hg1]; exact hE1.size
  rw [← hg1] at hz ⊢
  have hRB : RB 24 (rots R0 0) a1 n1 c1 g1 W := ⟨hz, hI1.ext hxW, hc1⟩
  have hEW := hE1.trans hxW
  clear hW hxW hz hI1 hE1 hg1 hx1
  have hIW := hRB.ib
  have hcW := hRB.le
  refine wp_region_vague 9 [[], [], [], [0, 1, 2], [0, 1, 2, 3], [0, 1, 2, 3, 4], [0, 1, 2, 3, 4], [0, 1, 2, 3, 4, 5], [0, 1, 2, 3, 4, 5, 6, 7]] (by kernel_rfl) (by kernel_rfl) (by kernel_rfl) (by kernel_rfl) ?_; simp only [List.take_succ_cons, List.take_zero, List.drop_succ_cons, List.drop_zero, List.take_nil, List.drop_nil]
  (refine VD_load_arr (RR1) _ rfl (fun _ => rfl) (g1) (0) (fun _ => by simp [go_sem]) ([.slice a1 n1 c1]) (hRB.blk.rd) (rfl) ?_)
  (refine VD_vag (fun p => .agg #[.slice (p 0).1 32 (p 0).2, .slice (p 1).1 32 (p 1).2]) (fun p w'' => PS up dn (p 0) (p 1) w'') (fun p w w' h hx => by first | exact h.ext hx | exact ⟨h.1.ext hx, h.2.ext hx⟩ | exact ⟨h.1.ext hx, h.2⟩ | exact ⟨h.1.ext hx, h.2.1.ext hx, h.2.2.ext hx⟩) (fun us w' hx hf => ⟨rfl, ?_⟩) ?_; (unfold gives; simp [go_sem, execOp]; exact vag_pair (hpr _)))
  (refine VD_vag (fun p => .slice (p 0).1 (16) (16)) (fun p w'' => Sl w'' (p 0).1 (16) (zero16)) (fun p w w' h hx => h.ext hx) (fun us w' hx hf => ⟨rfl, ?_⟩) ?_; (unfold gives; simp [go_sem, execOp, hm16]; exact ⟨fun _ => (some ⟨w'.heap.size, 0, none⟩, 0), rfl, Ext.of_alloc _ _, (blk_zeros8 _ _).sl rfl⟩))
  (refine VD_vag (fun p => .tuple #[.slice (p 0).1 (104) (p 0).2, .int .i64 0]) (fun p w'' => Sl w'' (p 0).1 (104) (CK) ∧ (104) ≤ (p 0).2) (fun p w w' h hx => ⟨h.1.ext hx, h.2⟩) (fun us w' hx hf => ⟨rfl, ?_⟩) ?_; (unfold gives; simp [go_sem, execOp]; exact vag_read (hmk _ _ _ _ _ _ _ _ _ _ (hIW.ext hx) hcW ((hf _ (List.mem_append_left _ (List.mem_append_right _ (List.mem_singleton_self _))) rfl)).1 ((hf _ (List.mem_append_left _ (List.mem_append_right _ (List.mem_singleton_self _))) rfl)).2.1 ((hf _ (List.mem_append_left _ (List.mem_append_right _ (List.mem_singleton_self _))) rfl)).2.2.1 ((hf _ (List.mem_append_left _ (List.mem_append_right _ (List.mem_singleton_self _))) rfl)).2.2.2 (hf _ (List.mem_append_right _ (List.mem_singleton_self _)) rfl) (by omega))))
  (repeat (apply VD_der; (case h => (intro us w' hx hf; obtain ⟨x, rfl⟩ := hx.out; refine ⟨rfl, ?_⟩; simp [go_sem, execOp, *]; (try simp (disch := omega) only [Go.IntWalk.i64_in, Go.IntWalk.rem_in, Go.IntWalk.wrap64_in]); rfl)); (try simp only [Act.put, List.setIfInBounds_toArray, List.set_cons_succ, List.set_cons_zero])))
  (refine VD_nil ?_; intro us w' hx hf; obtain ⟨x, rfl⟩ := hx.out; (try simp only [Act.put, List.setIfInBounds_toArray, List.set_cons_succ, List.set_cons_zero, wpList_none]); (try simp only [List.mem_cons, List.not_mem_nil, or_false, forall_eq_or_imp, forall_eq, List.nil_append, List.cons_append, List.mem_append, false_or, true_and, and_true] at hf); (try simp only [Nat.reduceAdd, Nat.zero_add] at hf); (try simp only [Nat.reduceAdd, Nat.zero_add]))
  obtain ⟨_, _, hSk, hck⟩ := hf
  obtain ⟨ak, hak⟩ : ∃ a, (us 3 0).1 = a := ⟨_, rfl⟩
  obtain ⟨ck, hcke⟩ : ∃ a, (us 3 0).2 = a := ⟨_, rfl⟩
  rw [hak] at hSk ⊢
  rw [hcke] at hck ⊢
  have hRB := hRB.ext (Ext.of_ext W x)
  have hEW := hEW.trans (Ext.of_ext W x)
  obtain ⟨V, hV⟩ : ∃ V, V = W.ext x := ⟨_, rfl⟩
  rw [← hV] at hSk hRB hEW ⊢
  clear hV hak hcke hIW hmk hst
  have hnl := hRB.ib.len
  have hf0 := (hf 0 (by omega)).2.2.1
  go_wp2_with (first
    | (refine wpList_load_arr (RR1) rfl _ rfl (g1) (0) rfl ([.slice a1 n1 c1]) ((hRB.blk.rd)) (rfl) ?_)
    | fail)
  (with_reducible refine (hop1 _ _ _ _ _ _ hRB.ib hRB.le (by omega) hSk hck).mono ?_)
  rintro e w2 ⟨au, nu, cu, ad, nd, cd, rfl, hu, hcu, hd, hcd, hx⟩
  have hRB := hRB.ext hx
  have hSk := hSk.ext hx
  have hEW := hEW.trans hx
  clear hx hop1
  have hlt1 := hRB.blk.lt
  have hP0 := Blk.new w2 #[.slice none 0 0, .slice none 0 0] 32
  go_wp2_with (first
    | (refine wpList_store_arr (RP2) rfl _ _ rfl (w2.heap.size) (0) rfl ([.slice au nu cu, .slice ad nd cd]) rfl (32) _ (hP0) (rfl) (by simp) (by first | exact one_u8 _ | (simp; done) | (simp; (repeat' (first | rfl | constructor)))) ?_; intro w5 hP hM5)
    | fail)
  have hx5 : Ext w2 (w2.alloc (.cells #[.slice none 0 0, .slice none 0 0] 32)) := Ext.of_alloc _ _
  have hRB := (hRB.ext hx5).muts hP0 (no2 _ _ _ _ _ _) hM5 (by omega)
  have hSk := (hSk.ext hx5).muts hP0 (no2 _ _ _ _ _ _) hM5
  have hu := (hu.ext hx5).muts hP0 (no2 _ _ _ _ _ _) hM5
  have hd := (hd.ext hx5).muts hP0 (no2 _ _ _ _ _ _) hM5
  have hEW := endM hEW hx5 hM5 (by omega)
  have hP : Blk w5 w2.heap.size 32 [.slice au nu cu, .slice ad nd cd] := hP
  obtain ⟨g6, hg6⟩ : ∃ g, g = w2.heap.size := ⟨_, rfl⟩
  rw [← hg6] at hP hlt1 ⊢
  clear hM5 hP0 hx5 hg6
  go_wp2
  go_loopw [9] (fun v9 wr => ∃ (k : Nat) (a : Option Addr) (n c : Nat), k ≤ 4 ∧ v9 = .int .i64 k ∧ RB 24 (rots R0 k) a n c g1 wr ∧ Sl wr ak 104 CK ∧ Blk wr g6 32 [.slice au nu cu, .slice ad nd cd] ∧ Sl wr au nu up ∧ Sl wr ad nd dn ∧ Ext w wr) (fun v9 _ => 4 - (intOf v9).toNat)
  case atStart => exact ⟨0, _, _, _, Nat.zero_le _, rfl, hRB, hSk, hP, hu, hd, hEW⟩
  case round =>
    clear hRB hSk hP hu hd hEW hnl
    obtain ⟨k, a, n, c, hk, rfl, hRB, hSk, hP, hu, hd, hE⟩ := hrel
    obtain ⟨f1, f2, f3, f4⟩ := hf k (by omega)
    have hnl := hRB.ib.len
    by_cases hlt2 : k < 4
    · have hki : (k : Int) < 4 := by omega
      have hrot := fun W H => crotate_any a n c (rots R0 k) W H hRB.le (by omega)
      rw [f2] at hrot
      go_wp2_with (first
        | (refine wpList_load_arr (RR1) rfl _ rfl (g1) (0) rfl ([.slice a n c]) ((hRB.blk.rd)) (rfl) ?_)
        | fail)
      (with_reducible refine (hrot _ hRB.ib).mono ?_)
      rintro e w4 ⟨a4, n4, c4, rfl, hI4, hc4, hx4⟩
      have hRB := hRB.ext hx4
      have hSk := hSk.ext hx4
      have hP := hP.extB hx4
      have hu := hu.ext hx4
      have hd := hd.ext hx4
      have hE := hE.trans hx4
      go_wp2_with (first
        | (refine wpList_store_arr (RR1) rfl _ _ rfl (g1) (0) rfl ([.slice a4 n4 c4]) rfl (24) _ (hRB.blk) (rfl) (by simp) (by first | exact one_u8 _ | (simp; done) | (simp; (repeat' (first | rfl | constructor)))) ?_; intro w6 hB6 hM6)
        | fail)
      go_roundw
      case rel => exact ⟨k + 1, a4, n4, c4, by omega, by go_num, ⟨hB6, hI4.muts hRB.blk (no1 _ _ _) hM6, hc4⟩, hSk.muts hRB.blk (no1 _ _ _) hM6, Blk.turn hM6 hP (by omega), hu.muts hRB.blk (no1 _ _ _) hM6, hd.muts hRB.blk (no1 _ _ _) hM6, endM hE (Ext.refl _) hM6 (by omega)⟩
      case measure => simp [intOf]; omega
    · obtain rfl : k = 4 := by omega
      have hki : ¬ ((4 : Nat) : Int) < 4 := by omega
      go_wp2_with (first
        | (refine wpList_load_arr (RR1) rfl _ rfl (g1) (0) rfl ([.slice a n c]) ((hRB.blk.rd)) (rfl) ?_)
        | fail)
      (with_reducible refine (hop2 _ _ _ _ _ _ hRB.ib hRB.le (by omega) hSk hck).mono ?_)
      rintro e w7 ⟨aq, nq, cq, bq, mq, dq, rfl, _, _, _, _, hx7⟩
      have hP := hP.extB hx7
      have hu := hu.ext hx7
      have hd := hd.ext hx7
      have hE := hE.trans hx7
      have hlt6 := hP.lt
      have hQ0 := Blk.new w7 #[.slice none 0 0, .slice none 0 0] 32
      go_wp2_with (first
        | (refine wpList_store_arr (RP2) rfl _ _ rfl (w7.heap.size) (0) rfl ([.slice aq nq cq, .slice bq mq dq]) rfl (32) _ (hQ0) (rfl) (by simp) (by first | exact one_u8 _ | (simp; done) | (simp; (repeat' (first | rfl | constructor)))) ?_; intro w8 hQ hM8)
        | fail)
      have hx8 : Ext w7 (w7.alloc (.cells #[.slice none 0 0, .slice none 0 0] 32)) := Ext.of_alloc _ _
      have hP := Blk.turn hM8 (hP.extB hx8) (by omega)
      have hu := (hu.ext hx8).muts hQ0 (no2 _ _ _ _ _ _) hM8
      have hd := (hd.ext hx8).muts hQ0 (no2 _ _ _ _ _ _) hM8
      have hE := endM hE hx8 hM8 hE.size
      clear hM8 hQ0 hQ hx8
      refine wp_region_vague 33 [[], [0], [0, 1], [0, 1, 2], [0, 1, 2, 3], [0, 1, 2, 3, 4], [0, 1, 2, 3, 4, 5], [0, 1, 2, 3, 4, 5, 6], [0, 1, 2, 3, 4, 5, 6, 7], [0, 1, 2, 3, 4, 5, 6, 7, 8], [0, 1, 2, 3, 4, 5, 6, 7, 8, 9], [0, 1, 2, 3, 4, 5, 6, 7, 8, 9, 10], [0, 1, 2, 3, 4, 5, 6, 7, 8, 9, 10, 11], [0, 1, 2, 3, 4, 5, 6, 7, 8, 9, 10, 11, 12], [0, 1, 2, 3, 4, 5, 6, 7, 8, 9, 10, 11, 12, 13], [0, 1, 2, 3, 4, 5, 6, 7, 8, 9, 10, 11, 12, 13, 14], [0, 1, 2, 3, 4, 5, 6, 7, 8, 9, 10, 11, 12, 13, 14, 15], [0, 1, 2, 3, 4, 5, 6, 7, 8, 9, 10, 11, 12, 13, 14, 15, 16], [0, 1, 2, 3, 4, 5, 6, 7, 8, 9, 10, 11, 12, 13, 14, 15, 16, 17], [0, 1, 2, 3, 4, 5, 6, 7, 8, 9, 10, 11, 12, 13, 14, 15, 16, 17, 18], [0, 1, 2, 3, 4, 5, 6, 7, 8, 9, 10, 11, 12, 13, 14, 15, 16, 17, 18, 19], [0, 1, 2, 3, 4, 5, 6, 7, 8, 9, 10, 11, 12, 13, 14, 15, 16, 17, 18, 19, 20], [0, 1, 2, 3, 4, 5, 6, 7, 8, 9, 10, 11, 12, 13, 14, 15, 16, 17, 18, 19, 20, 21], [0, 1, 2, 3, 4, 5, 6, 7, 8, 9, 10, 11, 12, 13, 14, 15, 16, 17, 18, 19, 20, 21, 22], [0, 1, 2, 3, 4, 5, 6, 7, 8, 9, 10, 11, 12, 13, 14, 15, 16, 17, 18, 19, 20, 21, 22, 23], [0, 1, 2, 3, 4, 5, 6, 7, 8, 9, 10, 11, 12, 13, 14, 15, 16, 17, 18, 19, 20, 21, 22, 23, 24], [0, 1, 2, 3, 4, 5, 6, 7, 8, 9, 10, 11, 12, 13, 14, 15, 16, 17, 18, 19, 20, 21, 22, 23, 24, 25], [0, 1, 2, 3, 4, 5, 6, 7, 8, 9, 10, 11, 12, 13, 14, 15, 16, 17, 18, 19, 20, 21, 22, 23, 24, 25, 26], [0, 1, 2, 3, 4, 5, 6, 7, 8, 9, 10, 11, 12, 13, 14, 15, 16, 17, 18, 19, 20, 21, 22, 23, 24, 25, 26, 27], [0, 1, 2, 3, 4, 5, 6, 7, 8, 9, 10, 11, 12, 13, 14, 15, 16, 17, 18, 19, 20, 21, 22, 23, 24, 25, 26, 27], [0, 1, 2, 3, 4, 5, 6, 7, 8, 9, 10, 11, 12, 13, 14, 15, 16, 17, 18, 19, 20, 21, 22, 23, 24, 25, 26, 27, 28, 29], [0, 1, 2, 3, 4, 5, 6, 7, 8, 9, 10, 11, 12, 13, 14, 15, 16, 17, 18, 19, 20, 21, 22, 23, 24, 25, 26, 27, 28, 29, 30], [0, 1, 2, 3, 4, 5, 6, 7, 8, 9, 10, 11, 12, 13, 14, 15, 16, 17, 18, 19, 20, 21, 22, 23, 24, 25, 26, 27, 28, 29, 30, 31]] (by kernel_rfl) (by kernel_rfl) (by kernel_rfl) (by kernel_rfl) ?_; simp only [List.take_succ_cons, List.take_zero, List.drop_succ_cons, List.drop_zero, List.take_nil, List.drop_nil]
      (repeat (apply VD_der; (case h => (intro us w' hx hf; obtain ⟨x, rfl⟩ := hx.out; refine ⟨rfl, ?_⟩; simp [go_sem, execOp, *]; (try simp (disch := omega) only [Go.IntWalk.i64_in, Go.IntWalk.rem_in, Go.IntWalk.wrap64_in]); rfl)); (try simp only [Act.put, List.setIfInBounds_toArray, List.set_cons_succ, List.set_cons_zero])))
      (refine VD_load_arr (RP2) _ rfl (fun _ => rfl) (g6) (0) (fun _ => by simp [go_sem]) ([.slice au nu cu, .slice ad nd cd]) (hP.rd) (rfl) ?_)
      (refine VD_vag (fun p => .agg #[.slice (p 0).1 32 (p 0).2, .slice (p 1).1 32 (p 1).2]) (fun p w'' => PS up dn (p 0) (p 1) w'') (fun p w w' h hx => by first | exact h.ext hx | exact ⟨h.1.ext hx, h.2.ext hx⟩ | exact ⟨h.1.ext hx, h.2⟩ | exact ⟨h.1.ext hx, h.2.1.ext hx, h.2.2.ext hx⟩) (fun us w' hx hf => ⟨rfl, ?_⟩) ?_; (unfold gives; simp [go_sem, execOp]; exact vag_pair (hpr _)))
      (refine VD_vag (fun _ => .bool true) (fun _ _ => True) (fun _ _ _ _ _ => trivial) (fun us w' hx hf => ⟨rfl, ?_⟩) ?_; (unfold gives; simp [go_sem, execOp]; refine (ckpair_any _ _ _ _ _ _ _ _ _ _ _ _ up dn _ (hu.ext hx) (hd.ext hx) ((hf _ (List.mem_append_right _ (List.mem_singleton_self _)) rfl)).1 ((hf _ (List.mem_append_right _ (List.mem_singleton_self _)) rfl)).2.2.1).mono ?_; rintro e w1 ⟨rfl, hx1⟩; first | exact ⟨rfl, hx1⟩ | simpa using hx1))
      (repeat (apply VD_der; (case h => (intro us w' hx hf; obtain ⟨x, rfl⟩ := hx.out; refine ⟨rfl, ?_⟩; simp [go_sem, execOp, *]; (try simp (disch := omega) only [Go.IntWalk.i64_in, Go.IntWalk.rem_in, Go.IntWalk.wrap64_in]); rfl)); (try simp only [Act.put, List.setIfInBounds_toArray, List.set_cons_succ, List.set_cons_zero])))
      (refine VD_nil ?_; intro us w' hx hf; obtain ⟨x, rfl⟩ := hx.out; (try simp only [Act.put, List.setIfInBounds_toArray, List.set_cons_succ, List.set_cons_zero, wpList_none]); (try simp only [List.mem_cons, List.not_mem_nil, or_false, forall_eq_or_imp, forall_eq, List.nil_append, List.cons_append, List.mem_append, false_or, true_and, and_true] at hf); (try simp only [Nat.reduceAdd, Nat.zero_add] at hf); (try simp only [Nat.reduceAdd, Nat.zero_add]))
      go_wp2_with fail
      go_ret
      exact ⟨rfl, hE.ext x⟩
end Go.Proofs.YtbfgeokngekdmaaGreat

/- Layer 19: the law CookieRefuses. -/
namespace Go.Proofs.YtbfgeokngekdmaaGreat
open Go.RowKit Go.Sec Go.Oct Go.Sha Go.Aes Go.Cook Go.Chan BigFrame

theorem rmake_ok (r : Ring) (algo : Int) (up down nonce : List UInt8) (hv : validR r = true) (h0 : 0 ≤ algo) (h1 : algo ≤ 65535) (a u v b : Option Addr) (n c cu cv cn : Nat) (w : World) (hI : Ib w a n r) (hnc : n ≤ c) (hu : Sl w u 32 up) (hcu : 32 ≤ cu) (hv' : Sl w v 32 down) (hcv : 32 ≤ cv) (hb : Sl w b 16 nonce) (hcn : 16 ≤ cn) :
    Calls Tryz.prog 6 #[.agg #[.slice a n c], .int .i64 algo, .agg #[.slice u 32 cu, .slice v 32 cv], .slice b 16 cn] w (Read2 104 (cookC (hd r) algo up down nonce) (.int .i64 0) w) := by
  obtain ⟨v1, _, v3, v4⟩ := validR_iff.1 hv
  have hl := hI.len
  have := rcmake_any a u v b n c 32 cu 32 cv 16 cn r algo up down nonce w hI hnc (by omega) hu hcu hv' hcv hb hcn
  rw [makeE_ok hv h0 h1 hu.len hv'.len hb.len] at this
  obtain ⟨k0, k1, k2⟩ := v1 _ (hd_mem v3)
  have hc := (cookC_parts (m := hd r) (algo := algo) k0 k1 k2 hb.len hu.len hv'.len).1
  unfold BytesP at this
  simp only [hc] at this
  exact this
set_option maxRecDepth 100000 in
set_option maxHeartbeats 2000000 in
theorem cookieRefuses_walk (seed turns at' by' : Int) (other : Bool) (w : World) :
    Calls Tryz.prog 3 #[.int .i64 seed, .int .i64 turns, .int .i64 at', .int .i64 by', .bool other] w fun e w' => e = .returned (.bool true) ∧ Ext w w' := by
  have hkn := fun W => known19_any W
  obtain ⟨s, hs1, es⟩ := nmod seed 1000 (by omega)
  have es : seed % 1000 = (s : Int) := es
  obtain ⟨p, hp1, ep⟩ := nmod at' 50 (by omega)
  have ep : at' % 50 = (p : Int) := ep
  obtain ⟨t, ht1, ht⟩ := nmod turns 6 (by omega)
  obtain ⟨t2, ht2, htb⟩ := nmod by' 6 (by omega)
  have hs := fun W => within_any seed 1000 W (by omega) (by omega)
  have hp := fun W => within_any at' 50 W (by omega) (by omega)
  rw [es] at hs
  rw [ep] at hp
  have hrg := fun W => wring_any s t rfl turns ht W (by omega)
  have hrg2 := fun W => wring_any (s + 1 + p) t2 (show (s : Int) + 1 + (p : Int) = ((s + 1 + p : Nat) : Int) by omega) by' htb W (by omega)
  have hpr : ∀ W, Calls Tryz.prog 7 #[.int .i64 3] W (PairP (upP 3) (dnP 3) W) := fun W => wpair_any 3 rfl W (by omega)
  have hnb : ∀ W, Calls Tryz.prog 8 #[.int .i64 4, .int .i64 16] W (Fresh 16 (wbytes 4 16) W) := fun W => wbytes_any 4 16 rfl rfl W (by omega) (by omega)
  obtain ⟨hv, _, hl4, hl1⟩ := ring0_facts s (wbytes s 32) (by omega) t (by omega)
  obtain ⟨hv2, _, hl42, hl12⟩ := ring0_facts (s + 1 + p) (wbytes (s + 1 + p) 32) (by omega) t2 (by omega)
  generalize rots (ring0 s (wbytes s 32)) t = R at *
  generalize rots (ring0 (s + 1 + p) (wbytes (s + 1 + p) 32)) t2 = R2 at *
  have hmk := fun a u v b n c cu cv cn W H1 H2 H3 H4 H5 H6 H7 H8 => rmake_ok R 5 (upP 3) (dnP 3) (wbytes 4 16) hv (by omega) (by omega) a u v b n c cu cv cn W H1 H2 H3 H4 H5 H6 H7 H8
  generalize cookC (hd R) 5 (upP 3) (dnP 3) (wbytes 4 16) = CK at *
  generalize upP 3 = up at *
  generalize dnP 3 = dn at *
  generalize wbytes 4 16 = nb at *
  clear es ep ht htb hv hv2
  go_enter Tryz.func3, Tryz.ntmps3
  go_wp2_with fail
  (with_reducible refine (hs _).mono ?_); rintro e w0 ⟨rfl, hx0⟩
  go_wp2_with fail
  (with_reducible refine (hrg _).mono ?_)
  rintro e w1 ⟨a1, n1, c1, rfl, hI1, hc1, hx1⟩
  have hE1 := hx0.trans hx1
  have hn4 : n1 ≤ 4 := by have := hI1.len; omega
  clear hx0 hx1
  go_wp2_with (first
    | (refine wpList_alloc_store (RR1) rfl rfl _ _ rfl rfl rfl rfl (by simp [Act.put]) ([.slice a1 n1 c1]) rfl (by simp) (rfl) ((by simp; repeat' (first | rfl | constructor))) ?_; intro x hz _)
    | fail)
  refine nameW ?_
  intro W hW
  have hxW : Ext w1 W := by rw [hW]; exact (by repeat (first | (with_reducible first | exact Ext.refl _ | assumption | apply Ext.alloc | apply Ext.ext | apply Ext.drew | refine Ext.setCell ?_ ?_ _) | (focus (simp [go_sem]; done))))
  have hRB : RB 24 R a1 n1 c1 w1.heap.size W := ⟨by rw [hW]; exact hz.extB (by repeat (first | (with_reducible first | exact Ext.refl _ | assumption | apply Ext.alloc | apply Ext.ext | apply Ext.drew | refine Ext.setCell ?_ ?_ _) | (focus (simp [go_sem]; done)))), hI1.ext hxW, hc1⟩
  have hE := hE1.trans hxW
  have hE1s := hE1.size
  clear hW hxW hz hE1 hI1
  obtain ⟨g1, hg1⟩ : ∃ g, g = w1.heap.size := ⟨_, rfl⟩
  rw [← hg1] at hRB ⊢
  have hgw : w.heap.size ≤ g1 := by rw [hg1]; exact hE1s
  clear hg1
  have hIW := hRB.ib
  refine wp_region_vague 8 [[], [], [1], [0, 1, 2], [0, 1, 2, 3], [0, 1, 2, 3, 4], [0, 1, 2, 3, 4], [0, 1, 2, 3, 4, 5], [0, 1, 2, 3, 4, 5, 6, 7]] (by kernel_rfl) (by kernel_rfl) (by kernel_rfl) (by kernel_rfl) ?_; simp only [List.take_succ_cons, List.take_zero, List.drop_succ_cons, List.drop_zero, List.take_nil, List.drop_nil]
  (refine VD_load_arr (RR1) _ rfl (fun _ => rfl) (g1) (0) (fun _ => by simp [go_sem]) ([.slice a1 n1 c1]) (hRB.blk.rd) (rfl) ?_)
  (refine VD_vag (fun p => .agg #[.slice (p 0).1 32 (p 0).2, .slice (p 1).1 32 (p 1).2]) (fun p => PS up dn (p 0) (p 1)) (fun p w w' h hx => h.ext hx) (fun us w' hx hf => ⟨rfl, ?_⟩) ?_; (unfold gives; simp [go_sem, execOp]; exact vag_pair (hpr _)))
  (refine VD_vag (fun p => .slice (p 0).1 (16) (p 0).2) (fun p w'' => Own w'' 0 (p 0).1 (16) (p 0).2 (nb)) (fun p w w' h hx => h.ext hx) (fun us w' hx hf => ⟨rfl, ?_⟩) ?_; (unfold gives; simp [go_sem, execOp]; exact vag_fresh (Nat.zero_le _) (hnb _)))
  (refine VD_vag (fun p => .tuple #[.slice (p 0).1 (104) (p 0).2, .int .i64 0]) (fun p w'' => Sl w'' (p 0).1 (104) (CK) ∧ (104) ≤ (p 0).2) (fun p w w' h hx => ⟨h.1.ext hx, h.2⟩) (fun us w' hx hf => ⟨rfl, ?_⟩) ?_; (unfold gives; simp [go_sem, execOp]; exact vag_read (hmk _ _ _ _ _ _ _ _ _ _ (hIW.ext hx) hc1 ((hf _ (List.mem_append_left _ (List.mem_append_right _ (List.mem_singleton_self _))) rfl)).1 ((hf _ (List.mem_append_left _ (List.mem_append_right _ (List.mem_singleton_self _))) rfl)).2.1 ((hf _ (List.mem_append_left _ (List.mem_append_right _ (List.mem_singleton_self _))) rfl)).2.2.1 ((hf _ (List.mem_append_left _ (List.mem_append_right _ (List.mem_singleton_self _))) rfl)).2.2.2 ((hf _ (List.mem_append_right _ (List.mem_singleton_self _)) rfl)).sl ((hf _ (List.mem_append_right _ (List.mem_singleton_self _)) rfl)).le.1)))
  (repeat (apply VD_der; (case h => (intro us w' hx hf; obtain ⟨x, rfl⟩ := hx.out; refine ⟨rfl, ?_⟩; simp [go_sem, execOp, *]; (try simp (disch := omega) only [Go.IntWalk.i64_in, Go.IntWalk.rem_in, Go.IntWalk.wrap64_in]); rfl)); (try simp only [Act.put, List.setIfInBounds_toArray, List.set_cons_succ, List.set_cons_zero])))
  (refine VD_nil ?_; intro us w' hx hf; obtain ⟨x, rfl⟩ := hx.out; (try simp only [Act.put, List.setIfInBounds_toArray, List.set_cons_succ, List.set_cons_zero, wpList_none]); (try simp only [List.mem_cons, List.not_mem_nil, or_false, forall_eq_or_imp, forall_eq, List.nil_append, List.cons_append, List.mem_append, false_or, true_and, and_true] at hf); (try simp only [Nat.reduceAdd, Nat.zero_add] at hf); (try simp only [Nat.reduceAdd, Nat.zero_add]))
  obtain ⟨_, _, hSk, hck⟩ := hf
  obtain ⟨ak, hak⟩ : ∃ a, (us 3 0).1 = a := ⟨_, rfl⟩
  obtain ⟨ck, hcke⟩ : ∃ a, (us 3 0).2 = a := ⟨_, rfl⟩
  rw [hak] at hSk ⊢
  rw [hcke] at hck ⊢
  have hxV : Ext W (W.ext x) := Ext.of_ext _ _
  have hRB := hRB.ext hxV
  have hE := hE.trans hxV
  clear hak hcke hxV hIW hmk hnb hpr hx
  generalize W.ext x = V at *
  cases other
  · go_wp2_with fail
    (with_reducible refine (changed_any ak 104 ck CK at' by' V hSk (by omega) (by omega)).mono ?_)
    rintro e w5 ⟨a5, c5, rfl, hO5, hx5⟩
    have hB := hRB.blk.extB hx5
    have hI := hRB.ib.ext hx5
    have hcC := hc1
    have hS := hO5.sl
    have hkC := hO5.le.1
    have hE := hE.trans hx5
    clear hx5 hRB hSk hck hO5 hrg hrg2 hs hp
    generalize chg CK at' by' = L at *
    go_wp2_with (first
      | (refine wpList_load_arr (RR1) rfl _ rfl (g1) (0) rfl ([.slice a1 n1 c1]) (hB.rd) (rfl) ?_)
      | fail)
    have hop := fun W H1 H2 => copen_any a1 a5 n1 c1 104 c5 R L W H1 hcC (by omega) H2 hkC
    have hro := fun W H1 H2 => rcopen_any a1 a5 n1 c1 104 c5 R L W H1 hcC (by omega) H2 hkC
    generalize openR R L = O at *
    (with_reducible refine (hop _ hI hS).mono ?_)
    rintro e w10 ⟨bu, nu, du, bd, nd, dd, rfl, hbu, hdu, hbd, hdd, hx10⟩
    have hB := hB.extB hx10
    have hI := hI.ext hx10
    have hS := hS.ext hx10
    have hE := hE.trans hx10
    have hlt := hB.lt
    clear hx10 hop
    have hQ0 := Blk.new w10 #[.slice none 0 0, .slice none 0 0] 32
    have hx11 : Ext w10 (w10.alloc (.cells #[.slice none 0 0, .slice none 0 0] 32)) := Ext.of_alloc _ _
    have hBa := hB.extB hx11
    go_wp2_with (first
      | (refine wpList_store_arr (RP2) rfl _ _ rfl (w10.heap.size) (0) rfl ([.slice bu nu du, .slice bd nd dd]) rfl (32) _ (hQ0) (rfl) (by simp) (by first | exact one_u8 _ | (simp; done) | (simp; (repeat' (first | rfl | constructor)))) ?_; intro w12 hQ hM12)
      | (refine wpList_load_arr (RR1) rfl _ rfl (g1) (0) rfl ([.slice a1 n1 c1]) ((Blk.turn hM12 hBa (by omega)).rd) (rfl) ?_)
      | fail)
    have hB := Blk.turn hM12 hBa (by omega)
    have hI := (hI.ext hx11).muts hQ0 (no2 _ _ _ _ _ _) hM12
    have hS := (hS.ext hx11).muts hQ0 (no2 _ _ _ _ _ _) hM12
    have hbu := (hbu.ext hx11).muts hQ0 (no2 _ _ _ _ _ _) hM12
    have hbd := (hbd.ext hx11).muts hQ0 (no2 _ _ _ _ _ _) hM12
    have hE := endM hE hx11 hM12 hE.size
    have hQ : Blk w12 w10.heap.size 32 [.slice bu nu du, .slice bd nd dd] := hQ
    obtain ⟨g7, hg7⟩ : ∃ g, g = w10.heap.size := ⟨_, rfl⟩
    rw [← hg7] at hQ ⊢
    clear hM12 hQ0 hx11 hBa hg7 hlt
    (with_reducible refine (hro _ hI hS).mono ?_)
    rintro e w13 ⟨pu, mu, fu, pd, md, fd, rfl, hpu, hfu, hpd, hfd, hx13⟩
    have hQ := hQ.extB hx13
    have hbu := hbu.ext hx13
    have hbd := hbd.ext hx13
    have hE := hE.trans hx13
    have hlt := hQ.lt
    clear hx13 hro hI hS hB
    have hP0 := Blk.new w13 #[.slice none 0 0, .slice none 0 0] 32
    have hx14 : Ext w13 (w13.alloc (.cells #[.slice none 0 0, .slice none 0 0] 32)) := Ext.of_alloc _ _
    have hQa := hQ.extB hx14
    go_wp2_with (first
      | (refine wpList_store_arr (RP2) rfl _ _ rfl (w13.heap.size) (0) rfl ([.slice pu mu fu, .slice pd md fd]) rfl (32) _ (hP0) (rfl) (by simp) (by first | exact one_u8 _ | (simp; done) | (simp; (repeat' (first | rfl | constructor)))) ?_; intro w15 hP hM15)
      | fail)
    have hQ := Blk.turn hM15 hQa (by omega)
    have hbu := (hbu.ext hx14).muts hP0 (no2 _ _ _ _ _ _) hM15
    have hbd := (hbd.ext hx14).muts hP0 (no2 _ _ _ _ _ _) hM15
    have hpu := (hpu.ext hx14).muts hP0 (no2 _ _ _ _ _ _) hM15
    have hpd := (hpd.ext hx14).muts hP0 (no2 _ _ _ _ _ _) hM15
    have hE := endM hE hx14 hM15 hE.size
    have hP : Blk w15 w13.heap.size 32 [.slice pu mu fu, .slice pd md fd] := hP
    obtain ⟨g9, hg9⟩ : ∃ g, g = w13.heap.size := ⟨_, rfl⟩
    rw [← hg9] at hP ⊢
    clear hM15 hP0 hx14 hQa hg9 hlt
    have hsp := fun V H1 H2 H3 H4 => ckpair_any bu bd pu pd nu du nd dd mu fu md fd O.up O.down V H1 H2 H3 H4
    (with_reducible refine (hkn _).mono ?_); rintro e w16 ⟨rfl, hx16⟩
    have hQ := hQ.extB hx16
    have hP := hP.extB hx16
    have hbu := hbu.ext hx16
    have hbd := hbd.ext hx16
    have hpu := hpu.ext hx16
    have hpd := hpd.ext hx16
    have hE := hE.trans hx16
    clear hx16
    go_wp2_with (first
      | (refine wpList_wanted (by simp [Region.wanted, yielded, Act.put]) ?_; (refine wpList_load_arr (RP2) rfl _ rfl (g7) (0) rfl ([.slice bu nu du, .slice bd nd dd]) (hQ.rd) (rfl) ?_))
      | (refine wpList_wanted (by simp [Region.wanted, yielded, Act.put]) ?_; (refine wpList_load_arr (RP2) rfl _ rfl (g9) (0) rfl ([.slice pu mu fu, .slice pd md fd]) (hP.rd) (rfl) ?_))
      | fail)
    (with_reducible refine (hsp _ hbu hbd hpu hpd).mono ?_); rintro e w17 ⟨rfl, hx17⟩
    go_wp2_with fail
    go_ret
    exact ⟨rfl, hE.trans hx17⟩
  · go_wp2_with fail
    (with_reducible refine (hs _).mono ?_); rintro e w5 ⟨rfl, hx5⟩
    go_wp2_with fail
    (with_reducible refine (hp _).mono ?_); rintro e w6 ⟨rfl, hx6⟩
    go_wp2_with fail
    (with_reducible refine (hrg2 _).mono ?_)
    rintro e w7 ⟨a6, n6, c6, rfl, hI6, hc6, hx7⟩
    have hx57 := hx5.trans (hx6.trans hx7)
    have hRB := hRB.ext hx57
    have hSk := hSk.ext hx57
    have hE := hE.trans hx57
    have hn6 : n6 ≤ 4 := by have := hI6.len; omega
    clear hx5 hx6 hx7 hx57 hrg hrg2 hs hp
    go_wp2_with (first
      | (refine wpList_store_arr (RR1) rfl _ _ rfl (g1) (0) rfl ([.slice a6 n6 c6]) rfl (24) _ (hRB.blk) (rfl) (by simp) (by first | exact one_u8 _ | (simp; done) | (simp; (repeat' (first | rfl | constructor)))) ?_; intro w8 hB8 hM8)
      | (refine wpList_load_arr (RR1) rfl _ rfl (g1) (0) rfl ([.slice a6 n6 c6]) ((show Blk _ _ _ [.slice a6 n6 c6] from hB8).rd) (rfl) ?_)
      | fail)
    have hB : Blk w8 g1 24 [.slice a6 n6 c6] := hB8
    have hI := hI6.muts hRB.blk (no1 _ _ _) hM8
    have hcC := hc6
    have hS := hSk.muts hRB.blk (no1 _ _ _) hM8
    have hkC := hck
    have hE : Ext w w8 := Below.trans hE (hM8.below hgw hE.size)
    clear hRB hI6 hSk hM8 hB8
    have hop := fun W H1 H2 => copen_any a6 ak n6 c6 104 ck R2 CK W H1 hcC (by omega) H2 hkC
    have hro := fun W H1 H2 => rcopen_any a6 ak n6 c6 104 ck R2 CK W H1 hcC (by omega) H2 hkC
    generalize openR R2 CK = O at *
    (with_reducible refine (hop _ hI hS).mono ?_)
    rintro e w10 ⟨bu, nu, du, bd, nd, dd, rfl, hbu, hdu, hbd, hdd, hx10⟩
    have hB := hB.extB hx10
    have hI := hI.ext hx10
    have hS := hS.ext hx10
    have hE := hE.trans hx10
    have hlt := hB.lt
    clear hx10 hop
    have hQ0 := Blk.new w10 #[.slice none 0 0, .slice none 0 0] 32
    have hx11 : Ext w10 (w10.alloc (.cells #[.slice none 0 0, .slice none 0 0] 32)) := Ext.of_alloc _ _
    have hBa := hB.extB hx11
    go_wp2_with (first
      | (refine wpList_store_arr (RP2) rfl _ _ rfl (w10.heap.size) (0) rfl ([.slice bu nu du, .slice bd nd dd]) rfl (32) _ (hQ0) (rfl) (by simp) (by first | exact one_u8 _ | (simp; done) | (simp; (repeat' (first | rfl | constructor)))) ?_; intro w12 hQ hM12)
      | (refine wpList_load_arr (RR1) rfl _ rfl (g1) (0) rfl ([.slice a6 n6 c6]) ((Blk.turn hM12 hBa (by omega)).rd) (rfl) ?_)
      | fail)
    have hB := Blk.turn hM12 hBa (by omega)
    have hI := (hI.ext hx11).muts hQ0 (no2 _ _ _ _ _ _) hM12
    have hS := (hS.ext hx11).muts hQ0 (no2 _ _ _ _ _ _) hM12
    have hbu := (hbu.ext hx11).muts hQ0 (no2 _ _ _ _ _ _) hM12
    have hbd := (hbd.ext hx11).muts hQ0 (no2 _ _ _ _ _ _) hM12
    have hE := endM hE hx11 hM12 hE.size
    have hQ : Blk w12 w10.heap.size 32 [.slice bu nu du, .slice bd nd dd] := hQ
    obtain ⟨g7, hg7⟩ : ∃ g, g = w10.heap.size := ⟨_, rfl⟩
    rw [← hg7] at hQ ⊢
    clear hM12 hQ0 hx11 hBa hg7 hlt
    (with_reducible refine (hro _ hI hS).mono ?_)
    rintro e w13 ⟨pu, mu, fu, pd, md, fd, rfl, hpu, hfu, hpd, hfd, hx13⟩
    have hQ := hQ.extB hx13
    have hbu := hbu.ext hx13
    have hbd := hbd.ext hx13
    have hE := hE.trans hx13
    have hlt := hQ.lt
    clear hx13 hro hI hS hB
    have hP0 := Blk.new w13 #[.slice none 0 0, .slice none 0 0] 32
    have hx14 : Ext w13 (w13.alloc (.cells #[.slice none 0 0, .slice none 0 0] 32)) := Ext.of_alloc _ _
    have hQa := hQ.extB hx14
    go_wp2_with (first
      | (refine wpList_store_arr (RP2) rfl _ _ rfl (w13.heap.size) (0) rfl ([.slice pu mu fu, .slice pd md fd]) rfl (32) _ (hP0) (rfl) (by simp) (by first | exact one_u8 _ | (simp; done) | (simp; (repeat' (first | rfl | constructor)))) ?_; intro w15 hP hM15)
      | fail)
    have hQ := Blk.turn hM15 hQa (by omega)
    have hbu := (hbu.ext hx14).muts hP0 (no2 _ _ _ _ _ _) hM15
    have hbd := (hbd.ext hx14).muts hP0 (no2 _ _ _ _ _ _) hM15
    have hpu := (hpu.ext hx14).muts hP0 (no2 _ _ _ _ _ _) hM15
    have hpd := (hpd.ext hx14).muts hP0 (no2 _ _ _ _ _ _) hM15
    have hE := endM hE hx14 hM15 hE.size
    have hP : Blk w15 w13.heap.size 32 [.slice pu mu fu, .slice pd md fd] := hP
    obtain ⟨g9, hg9⟩ : ∃ g, g = w13.heap.size := ⟨_, rfl⟩
    rw [← hg9] at hP ⊢
    clear hM15 hP0 hx14 hQa hg9 hlt
    have hsp := fun V H1 H2 H3 H4 => ckpair_any bu bd pu pd nu du nd dd mu fu md fd O.up O.down V H1 H2 H3 H4
    (with_reducible refine (hkn _).mono ?_); rintro e w16 ⟨rfl, hx16⟩
    have hQ := hQ.extB hx16
    have hP := hP.extB hx16
    have hbu := hbu.ext hx16
    have hbd := hbd.ext hx16
    have hpu := hpu.ext hx16
    have hpd := hpd.ext hx16
    have hE := hE.trans hx16
    clear hx16
    go_wp2_with (first
      | (refine wpList_wanted (by simp [Region.wanted, yielded, Act.put]) ?_; (refine wpList_load_arr (RP2) rfl _ rfl (g7) (0) rfl ([.slice bu nu du, .slice bd nd dd]) (hQ.rd) (rfl) ?_))
      | (refine wpList_wanted (by simp [Region.wanted, yielded, Act.put]) ?_; (refine wpList_load_arr (RP2) rfl _ rfl (g9) (0) rfl ([.slice pu mu fu, .slice pd md fd]) (hP.rd) (rfl) ?_))
      | fail)
    (with_reducible refine (hsp _ hbu hbd hpu hpd).mono ?_); rintro e w17 ⟨rfl, hx17⟩
    go_wp2_with fail
    go_ret
    exact ⟨rfl, hE.trans hx17⟩
end Go.Proofs.YtbfgeokngekdmaaGreat
