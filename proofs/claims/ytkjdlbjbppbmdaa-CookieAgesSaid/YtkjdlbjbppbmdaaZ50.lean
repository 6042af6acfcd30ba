/- Lemmas of this claim, several texts joined. -/
import Derived.Test.YtkjdlbjbppbmdaaZ48
set_option linter.unusedVariables false
set_option linter.unusedSimpArgs false
/- Layer 19: the law CookieAges. -/
namespace Go.Cook
open Go.Sha Go.Oct Go.Aes Go.Sec
theorem ages_pure {s t : Nat} {kb up dn nb : List UInt8} (hs : s ≤ 1000) (ht : t ≤ 10) (hu : up.length = 32) (hd' : dn.length = 32) (hn : nb.length = 16) (la : Nat) (hla : la ≤ 10) :
    (la ≤ 3 → openR (rots (rots (ring0 s kb) t) la) (cookC (hd (rots (ring0 s kb) t)) 5 up dn nb) = ⟨5, up, dn, la, 0⟩) ∧ (4 ≤ la → openR (rots (rots (ring0 s kb) t) la) (cookC (hd (rots (ring0 s kb) t)) 5 up dn nb) = ⟨0, [], [], 0, 5⟩) := by
  have hh : (hd (ring0 s kb)).1 = s := rfl
  obtain ⟨f1, f2⟩ := fineT (fine0 s kb (by omega)) t (by rw [hh]; omega)
  obtain ⟨hv, _, _, hl⟩ := ring0_facts s kb (by omega) (t + la) (by omega)
  rw [← rots_add] at hv
  generalize rots (ring0 s kb) t = R at *
  obtain ⟨v1, _, v3, v4⟩ := validR_iff.1 f1.ok
  obtain ⟨k0, k1, k2⟩ := v1 _ (hd_mem v3)
  obtain ⟨c1, _, _, _, c5⟩ := cookC_parts (m := hd R) (algo := 5) (up := up) (down := dn) (nonce := nb) k0 k1 k2 hn hu hd'
  have h0' : R[0]? = some (hd R) := by
    unfold hd
    rw [List.getD_eq_getElem?_getD, List.getElem?_eq_getElem (by omega)]; rfl
  refine ⟨fun h => open_make hv (by rw [rots_get R la h v3]; exact h0') (by omega) (by omega) hn hu hd', fun h => open_gone hv c1 fun m hm => ?_⟩
  rw [c5]
  have := rots4_ids f1 la h (by omega) m hm
  omega
end Go.Cook
namespace Go.Sec
open Go.RowKit
theorem ibM {w W w' : World} {a : Option Addr} {n g : Nat} {T : TypeId} {vs : List Value} {L : List (Int × List UInt8)} (h : Ib w a n L) (hx : Ext w W) (hB : Blk w g T vs) (hne : ∀ v ∈ vs, (∀ x, v ≠ .int .u8 x) ∧ ∀ x, v ≠ .int .i64 x) (hM : Mut g W w') : Ib w' a n L := (h.ext hx).muts (hB.extB hx) hne hM
theorem slM {w W w' : World} {a : Option Addr} {n g : Nat} {T : TypeId} {vs : List Value} {l : List UInt8} (h : Sl w a n l) (hx : Ext w W) (hB : Blk w g T vs) (hne : ∀ v ∈ vs, (∀ x, v ≠ .int .u8 x) ∧ ∀ x, v ≠ .int .i64 x) (hM : Mut g W w') : Sl w' a n l := (h.ext hx).muts (hB.extB hx) hne hM
theorem blkM {w W w' : World} {g k : Nat} {T : TypeId} {vs : List Value} (h : Blk w k T vs) (hx : Ext w W) (hM : Mut g W w') (hk : k ≠ g) : Blk w' k T vs := Blk.turn hM (h.extB hx) hk
end Go.Sec
namespace Go.Proofs.Ytkjdlbjbppbmdaa
open Go.RowKit Go.Sec Go.Oct Go.Sha Go.Aes Go.Cook Go.Chan BigFrame

set_option maxRecDepth 100000 in
set_option maxHeartbeats 8000000 in
theorem cookieAges_walk (seed turns later : Int) (w : World) :
    Calls Try.prog 6 #[.int .i64 seed, .int .i64 turns, .int .i64 later] w fun e w' => e = .returned (.bool true) ∧ Ext w w' := by
  have hkn := fun W => known19_any W
  obtain ⟨s, hs1, _, hs⟩ := within_nat seed 1000 (by omega) (by omega)
  obtain ⟨la, hla, _, hlw⟩ := within_nat later 7 (by omega) (by omega)
  obtain ⟨t, ht1, ht⟩ := nmod turns 6 (by omega)
  have hs := fun W => hs 1000 W rfl
  have hlw := fun W => hlw 7 W rfl
  have hrg := fun W => wring_any s t rfl turns ht W (by omega)
  have hpr := fun W => wpair_any 3 (show (3 : Int) = ((3 : Nat) : Int) from rfl) W (by omega)
  have hnb := fun W => wbytes_any 4 16 (show (4 : Int) = ((4 : Nat) : Int) from rfl) (show (16 : Int) = ((16 : Nat) : Int) from rfl) W (by omega) (by omega)
  have hul := upP_length 3
  have hdl := dnP_length 3
  have hnl := wbytes_length 4 16
  have hf : ∀ k ≤ 20, _ := fun k hk => ring0_facts s (wbytes s 32) (by omega) (t + k) (by omega)
  have hpu := ages_pure (s := s) (t := t) (kb := wbytes s 32) (by omega) (by omega) hul hdl hnl la (by omega)
  simp only [← rots_add] at hf
  generalize upP 3 = up at *
  generalize dnP 3 = dn at *
  generalize wbytes 4 16 = nb at *
  generalize rots (ring0 s (wbytes s 32)) t = R at *
  have hf0 := hf
  clear hf
  have hv : validR R = true := (hf0 0 (by omega)).1
  have hmk := fun a u v b n c cu cv cn W H1 H2 H3 H4 H5 H6 H7 H8 => cmake_ok R 5 up dn nb hv (by omega) (by omega) a u v b n c cu cv cn W H1 H2 H3 H4 H5 H6 H7 H8
  generalize cookC (hd R) 5 up dn nb = CK at *
  obtain ⟨hp3, hp4⟩ := hpu
  have hp3 := Lib.hid hp3
  have hp4 := Lib.hid hp4
  have hlaI : (la : Int) < 7 := by omega
  clear hs1 ht ht1
  go_enter Try.func6, Try.ntmps6
  go_wp2_with fail
  (with_reducible refine (hs _).mono ?_)
  rintro e w0 ⟨rfl, hE⟩
  go_wp2_with fail
  (with_reducible refine (hrg _).mono ?_)
  rintro e w1 ⟨a1, n1, c1, rfl, hI1, hc1, hx⟩
  have hE := hE.trans hx
  have hs3 := hE.size
  clear hx
  go_wp2_with (first
    | (refine wpList_alloc_store (RR1) rfl rfl _ _ rfl rfl rfl rfl (by simp [Act.put]) ([.slice a1 n1 c1]) rfl (by simp) (rfl) ((by simp; repeat' (first | rfl | constructor))) ?_; intro x hz _)
    | fail)
  (with_reducible refine (hpr _).mono ?_)
  rintro e w4 ⟨au, cu, ad, cd, rfl, hu, hcu, hd, hcd, hx4⟩
  have hx := (Ext.of_ext w1 x).trans hx4
  have hA : RB 57 (rots R 0) a1 n1 c1 w1.heap.size w4 := ⟨hz.extB hx4, hI1.ext hx, hc1⟩
  have hE := hE.trans hx
  obtain ⟨gA, hgA⟩ : ∃ g, g = w1.heap.size := ⟨_, rfl⟩
  have hgw : w.heap.size ≤ gA := by rw [hgA]; exact hs3
  rw [← hgA] at hA ⊢
  have hltA := hA.blk.lt
  clear hgA hx hx4 hz hI1 hs3
  go_wp2_with (first
    | (refine wpList_alloc_store (RP2) rfl rfl _ _ rfl rfl rfl rfl (by simp [Act.put]) ([.slice au 32 cu, .slice ad 32 cd]) rfl (by simp) (rfl) ((by simp; repeat' (first | rfl | constructor))) ?_; intro x hz _)
    | fail)
  obtain ⟨W, hW⟩ : ∃ W, W = w4.ext x := ⟨_, rfl⟩
  have hxW : Ext w4 W := by rw [hW]; exact (by repeat (first | (with_reducible first | exact Ext.refl _ | assumption | apply Ext.alloc | apply Ext.ext | apply Ext.drew | refine Ext.setCell ?_ ?_ _) | (focus (simp [go_sem]; done))))
  rw [← hW] at hz ⊢
  obtain ⟨g2, hg2⟩ : ∃ g, g = w4.heap.size := ⟨_, rfl⟩
  rw [← hg2] at hz hltA ⊢
  have hA := hA.ext hxW
  have hu := hu.ext hxW
  have hd := hd.ext hxW
  have hE := hE.trans hxW
  have hP : Blk W g2 39 [.slice au 32 cu, .slice ad 32 cd] := hz
  clear hxW hz hW hg2
  have hIW := hA.ib
  have hcW := hA.le
  refine wp_region_vague 9 [[], [], [], [0, 1, 2], [0, 1, 2, 3], [0, 1, 2, 3, 4], [0, 1, 2, 3, 4], [0, 1, 2, 3, 4, 5], [0, 1, 2, 3, 4, 5, 6, 7]] (by kernel_rfl) (by kernel_rfl) (by kernel_rfl) (by kernel_rfl) ?_; simp only [List.take_succ_cons, List.take_zero, List.drop_succ_cons, List.drop_zero, List.take_nil, List.drop_nil]
  (refine VD_load_arr (RR1) _ rfl (fun _ => rfl) (gA) (0) (fun _ => by simp [go_sem]) ([.slice a1 n1 c1]) (hA.blk.rd) (rfl) ?_)
  (refine VD_load_arr (RP2) _ rfl (fun _ => rfl) (g2) (0) (fun _ => by simp [go_sem]) ([.slice au 32 cu, .slice ad 32 cd]) (hP.rd) (rfl) ?_)
  (refine VD_vag (fun p => .slice (p 0).1 (16) (p 0).2) (fun p w'' => Own w'' 0 (p 0).1 (16) (p 0).2 (nb)) (fun p w w' h hx => h.ext hx) (fun us w' hx hf => ⟨rfl, ?_⟩) ?_; (unfold gives; simp [go_sem, execOp]; exact vag_fresh (Nat.zero_le _) (hnb _)))
  (refine VD_vag (fun p => .tuple #[.slice (p 0).1 (104) (p 0).2, .int .i64 0]) (fun p w'' => Sl w'' (p 0).1 (104) (CK) ∧ (104) ≤ (p 0).2) (fun p w w' h hx => ⟨h.1.ext hx, h.2⟩) (fun us w' hx hf => ⟨rfl, ?_⟩) ?_; (unfold gives; simp [go_sem, execOp]; exact vag_read (hmk _ _ _ _ _ _ _ _ _ _ (hIW.ext hx) hcW (hu.ext hx) hcu (hd.ext hx) hcd ((hf _ (List.mem_append_right _ (List.mem_singleton_self _)) rfl)).sl ((hf _ (List.mem_append_right _ (List.mem_singleton_self _)) rfl)).le.1)))
  (repeat (apply VD_der; (case h => (intro us w' hx hf; obtain ⟨x, rfl⟩ := hx.out; refine ⟨rfl, ?_⟩; simp [go_sem, execOp, *]; (try simp (disch := omega) only [Go.IntWalk.i64_in, Go.IntWalk.rem_in, Go.IntWalk.wrap64_in]); rfl)); (try simp only [Act.put, List.setIfInBounds_toArray, List.set_cons_succ, List.set_cons_zero])))
  (refine VD_nil ?_; intro us w' hx hf; obtain ⟨x, rfl⟩ := hx.out; (try simp only [Act.put, List.setIfInBounds_toArray, List.set_cons_succ, List.set_cons_zero, wpList_none]); (try simp only [List.mem_cons, List.not_mem_nil, or_false, forall_eq_or_imp, forall_eq, List.nil_append, List.cons_append, List.mem_append, false_or, true_and, and_true] at hf); (try simp only [Nat.reduceAdd, Nat.zero_add] at hf); (try simp only [Nat.reduceAdd, Nat.zero_add]))
  obtain ⟨_, hSk, hck⟩ := hf
  obtain ⟨ak, hak⟩ : ∃ a, (us 3 0).1 = a := ⟨_, rfl⟩
  obtain ⟨ck, hcke⟩ : ∃ a, (us 3 0).2 = a := ⟨_, rfl⟩
  rw [hak] at hSk ⊢
  rw [hcke] at hck ⊢
  obtain ⟨V, hV⟩ : ∃ V, V = W.ext x := ⟨_, rfl⟩
  have hxV : Ext W V := by rw [hV]; exact Ext.of_ext _ _
  rw [← hV] at hSk ⊢
  have hA := hA.ext hxV
  have hP := hP.extB hxV
  have hu := hu.ext hxV
  have hd := hd.ext hxV
  have hE := hE.trans hxV
  clear hV hak hcke hxV hIW hmk hnb hpr hcW
  go_wp2_with fail
  (with_reducible refine (hlw _).mono ?_)
  rintro e w5 ⟨rfl, hx⟩
  have hA := hA.ext hx
  have hP := hP.extB hx
  have hu := hu.ext hx
  have hd := hd.ext hx
  have hE := hE.trans hx
  have hSk := hSk.ext hx
  clear hx
  go_wp2
  go_loopw [11, 12, 13] (fun v11 _ _ wr => ∃ (k : Nat) (a : Option Addr) (n c : Nat), k ≤ la ∧ v11 = .int .i64 k ∧ RB 57 (rots R k) a n c gA wr ∧ Sl wr ak 104 CK ∧ Blk wr g2 39 [.slice au 32 cu, .slice ad 32 cd] ∧ Sl wr au 32 up ∧ Sl wr ad 32 dn ∧ Ext w wr) (fun v11 _ _ _ => la - (intOf v11).toNat)
  case atStart => exact ⟨0, _, _, _, Nat.zero_le _, rfl, hA, hSk, hP, hu, hd, hE⟩
  case round =>
    clear hA hSk hP hu hd hE
    obtain ⟨k, a, n, c, hk, rfl, hA, hSk, hP, hu, hd, hE⟩ := hrel
    obtain ⟨f1, f2, f3, f4⟩ := hf0 k (by omega)
    obtain ⟨q1, _, q3, _⟩ := hf0 (k + 1) (by omega)
    have hnl := hA.ib.len
    by_cases hlt2 : k < la
    · have hki : (k : Int) < (la : Int) := by omega
      have hrot := fun W H => crotate_any a n c (rots R k) W H hA.le (by omega)
      rw [f2] at hrot
      go_wp2_with (first
        | (refine wpList_load_arr (RR1) rfl _ rfl (gA) (0) rfl ([.slice a n c]) ((hA.blk.rd)) (rfl) ?_)
        | fail)
      (with_reducible refine (hrot _ hA.ib).mono ?_)
      rintro e w6 ⟨a6, n6, c6, rfl, hI6, hc6, hx⟩
      have hA := hA.ext hx
      have hP := hP.extB hx
      have hu := hu.ext hx
      have hd := hd.ext hx
      have hE := hE.trans hx
      have hSk := hSk.ext hx
      clear hx hrot
      have hn6 := hI6.len
      have hn6e : n6 = min (n + 1) 4 := by rw [← hn6, ← hnl]; exact rotR_length _
      have hval := fun W H => ckvalid_any a6 n6 c6 (rots R (k + 1)) W H hc6 (by omega)
      rw [q1] at hval
      have hmin : min ((n : Int) + 1) 4 = (n6 : Int) := by omega
      have hne6 : ((n6 : Int) != (n6 : Int)) = false := by simp
      have f7 := hA.blk.cell? 0 rfl
      have hl6 := hA.blk.lt
      haveI := hA.blk.blt
      have hn9 : (n : Int) ≤ 4 := by omega
      have hn66 : n6 ≤ 4 := by omega
      clear hn6e hn6 hnl q3 f3 f4
      go_wp2_with (first
        | (refine wpList_alloc_store (RR1) rfl rfl _ _ rfl rfl rfl rfl (by simp [Act.put]) ([.slice a6 n6 c6]) rfl (by simp) (rfl) ((by simp; repeat' (first | rfl | constructor))) ?_; intro x hz _); (have f12 : (w6.ext x).cell? ⟨w6.heap.size, 0, none⟩ = some (.slice a6 n6 c6) := hz.cell? 0 rfl)
        | (go_at_call 41; refine (hval _ (hI6.ext (by repeat (first | (with_reducible first | exact Ext.refl _ | assumption | apply Ext.alloc | apply Ext.ext | apply Ext.drew | refine Ext.setCell ?_ ?_ _) | (focus (simp [go_sem]; done)))))).mono ?_; rintro e w1 ⟨rfl, hxq⟩; obtain ⟨xq, rfl⟩ := hxq.out; clear hxq)
        | (refine wpList_wanted (by simp [Region.wanted, yielded, Act.put]) ?_; (refine wpList_load_arr (RR1) rfl _ rfl (w6.heap.size) (0) rfl ([.slice a6 n6 c6]) (((hz.extB (by repeat (first | (with_reducible first | exact Ext.refl _ | assumption | apply Ext.alloc | apply Ext.ext | apply Ext.drew | refine Ext.setCell ?_ ?_ _) | (focus (simp [go_sem]; done))))).rd)) (rfl) ?_))
        | (refine wpList_load_arr (RR1) rfl _ rfl (w6.heap.size) (0) rfl ([.slice a6 n6 c6]) (((hz.extB (by repeat (first | (with_reducible first | exact Ext.refl _ | assumption | apply Ext.alloc | apply Ext.ext | apply Ext.drew | refine Ext.setCell ?_ ?_ _) | (focus (simp [go_sem]; done))))).rd)) (rfl) ?_)
        | (refine wpList_store_arr (RR1) rfl _ _ rfl (gA) (0) rfl ([.slice a6 n6 c6]) rfl (57) _ ((hA.blk.extB (by repeat (first | (with_reducible first | exact Ext.refl _ | assumption | apply Ext.alloc | apply Ext.ext | apply Ext.drew | refine Ext.setCell ?_ ?_ _) | (focus (simp [go_sem]; done)))))) (rfl) (by simp) (by first | exact one_u8 _ | (simp; done) | (simp; (repeat' (first | rfl | constructor)))) ?_; intro w8 hB8 hM8)
        | fail)
      go_roundw
      case rel => exact ⟨k + 1, a6, n6, c6, by omega, by go_num, ⟨hB8, ibM hI6 (by repeat (first | (with_reducible first | exact Ext.refl _ | assumption | apply Ext.alloc | apply Ext.ext | apply Ext.drew | refine Ext.setCell ?_ ?_ _) | (focus (simp [go_sem]; done)))) hA.blk (no1 _ _ _) hM8, hc6⟩, slM hSk (by repeat (first | (with_reducible first | exact Ext.refl _ | assumption | apply Ext.alloc | apply Ext.ext | apply Ext.drew | refine Ext.setCell ?_ ?_ _) | (focus (simp [go_sem]; done)))) hA.blk (no1 _ _ _) hM8, blkM hP (by repeat (first | (with_reducible first | exact Ext.refl _ | assumption | apply Ext.alloc | apply Ext.ext | apply Ext.drew | refine Ext.setCell ?_ ?_ _) | (focus (simp [go_sem]; done)))) hM8 (by omega), slM hu (by repeat (first | (with_reducible first | exact Ext.refl _ | assumption | apply Ext.alloc | apply Ext.ext | apply Ext.drew | refine Ext.setCell ?_ ?_ _) | (focus (simp [go_sem]; done)))) hA.blk (no1 _ _ _) hM8, slM hd (by repeat (first | (with_reducible first | exact Ext.refl _ | assumption | apply Ext.alloc | apply Ext.ext | apply Ext.drew | refine Ext.setCell ?_ ?_ _) | (focus (simp [go_sem]; done)))) hA.blk (no1 _ _ _) hM8, endM hE (by repeat (first | (with_reducible first | exact Ext.refl _ | assumption | apply Ext.alloc | apply Ext.ext | apply Ext.drew | refine Ext.setCell ?_ ?_ _) | (focus (simp [go_sem]; done)))) hM8 hgw⟩
      case measure => simp [intOf]; omega
    · obtain rfl : k = la := by omega
      have hki : ¬ (k : Int) < (k : Int) := by omega
      by_cases hl4 : 4 ≤ k
      · have hl4I : (4 : Int) ≤ (k : Int) := by omega
        have hop := fun b m d W H1 H2 H3 => copen_ok (rots R k) _ CK (hp4.out hl4) b ak m d 104 ck W H1 H2 (by have := H1.len; omega) H3 hck
        go_wp2_with (first
          | (refine wpList_load_arr (RR1) rfl _ rfl (gA) (0) rfl ([.slice a n c]) ((hA.blk.rd)) (rfl) ?_)
          | fail)
        (with_reducible refine (hop _ _ _ _ hA.ib hA.le hSk).mono ?_)
        rintro e w7 ⟨bu, nu, du, bd, nd, dd, rfl, hbu, hdu, hbd, hdd, hx⟩
        have hA := hA.ext hx
        have hP := hP.extB hx
        have hu := hu.ext hx
        have hd := hd.ext hx
        have hE := hE.trans hx
        have hSk := hSk.ext hx
        clear hx hop
        have hlt2 := hP.lt
        have hQ0 := Blk.new w7 #[.slice none 0 0, .slice none 0 0] 39
        go_wp2_with (first
          | (refine wpList_store_arr (RP2) rfl _ _ rfl (w7.heap.size) (0) rfl ([.slice bu nu du, .slice bd nd dd]) rfl (39) _ (hQ0) (rfl) (by simp) (by first | exact one_u8 _ | (simp; done) | (simp; (repeat' (first | rfl | constructor)))) ?_; intro w8 hQ hM8)
          | fail)
        have hx8 : Ext w7 (w7.alloc (.cells #[.slice none 0 0, .slice none 0 0] 39)) := Ext.of_alloc _ _
        have hP := Blk.turn hM8 (hP.extB hx8) (by omega)
        have hu := (hu.ext hx8).muts hQ0 (no2 _ _ _ _ _ _) hM8
        have hd := (hd.ext hx8).muts hQ0 (no2 _ _ _ _ _ _) hM8
        have hbu := (hbu.ext hx8).muts hQ0 (no2 _ _ _ _ _ _) hM8
        have hbd := (hbd.ext hx8).muts hQ0 (no2 _ _ _ _ _ _) hM8
        have hE := endM hE hx8 hM8 hE.size
        have hQ : Blk w8 w7.heap.size 39 [.slice bu nu du, .slice bd nd dd] := hQ
        obtain ⟨g7, hg7⟩ : ∃ g, g = w7.heap.size := ⟨_, rfl⟩
        rw [← hg7] at hQ ⊢
        clear hM8 hQ0 hx8 hg7 hA hSk
        have hnu := hbu.len
        simp only [List.length_nil] at hnu
        subst hnu
        haveI := hQ.blt
        have f15 := hQ.cell? 0 rfl
        go_wp2_with (first
          | (go_at_call 43; refine (hkn _).mono ?_; rintro e w1 ⟨rfl, hxq⟩; obtain ⟨xq, rfl⟩ := hxq.out; clear hxq)
          | fail)
        go_ret
        exact ⟨rfl, hE.trans (by repeat (first | (with_reducible first | exact Ext.refl _ | assumption | apply Ext.alloc | apply Ext.ext | apply Ext.drew | refine Ext.setCell ?_ ?_ _) | (focus (simp [go_sem]; done))))⟩
      · have hl4I : ¬ (4 : Int) ≤ (k : Int) := by omega
        have hop := fun b m d W H1 H2 H3 => copen_ok (rots R k) _ CK (hp3.out (by omega)) b ak m d 104 ck W H1 H2 (by have := H1.len; omega) H3 hck
        go_wp2_with (first
          | (refine wpList_load_arr (RR1) rfl _ rfl (gA) (0) rfl ([.slice a n c]) ((hA.blk.rd)) (rfl) ?_)
          | fail)
        (with_reducible refine (hop _ _ _ _ hA.ib hA.le hSk).mono ?_)
        rintro e w7 ⟨bu, nu, du, bd, nd, dd, rfl, hbu, hdu, hbd, hdd, hx⟩
        have hA := hA.ext hx
        have hP := hP.extB hx
        have hu := hu.ext hx
        have hd := hd.ext hx
        have hE := hE.trans hx
        have hSk := hSk.ext hx
        clear hx hop
        have hlt2 := hP.lt
        have hQ0 := Blk.new w7 #[.slice none 0 0, .slice none 0 0] 39
        go_wp2_with (first
          | (refine wpList_store_arr (RP2) rfl _ _ rfl (w7.heap.size) (0) rfl ([.slice bu nu du, .slice bd nd dd]) rfl (39) _ (hQ0) (rfl) (by simp) (by first | exact one_u8 _ | (simp; done) | (simp; (repeat' (first | rfl | constructor)))) ?_; intro w8 hQ hM8)
          | fail)
        have hx8 : Ext w7 (w7.alloc (.cells #[.slice none 0 0, .slice none 0 0] 39)) := Ext.of_alloc _ _
        have hP := Blk.turn hM8 (hP.extB hx8) (by omega)
        have hu := (hu.ext hx8).muts hQ0 (no2 _ _ _ _ _ _) hM8
        have hd := (hd.ext hx8).muts hQ0 (no2 _ _ _ _ _ _) hM8
        have hbu := (hbu.ext hx8).muts hQ0 (no2 _ _ _ _ _ _) hM8
        have hbd := (hbd.ext hx8).muts hQ0 (no2 _ _ _ _ _ _) hM8
        have hE := endM hE hx8 hM8 hE.size
        have hQ : Blk w8 w7.heap.size 39 [.slice bu nu du, .slice bd nd dd] := hQ
        obtain ⟨g7, hg7⟩ : ∃ g, g = w7.heap.size := ⟨_, rfl⟩
        rw [← hg7] at hQ ⊢
        clear hM8 hQ0 hx8 hg7 hA hSk
        have hkk : ((k : Int) == (k : Int)) = true := by simp
        have hsp := fun V H1 H2 H3 H4 => ckpair_any au ad bu bd 32 cu 32 cd nu du nd dd up dn V H1 H2 H3 H4
        go_wp2_with (first
          | (go_at_call 43; refine (hkn _).mono ?_; rintro e w1 ⟨rfl, hxq⟩; obtain ⟨xq, rfl⟩ := hxq.out; clear hxq)
          | (go_at_call 44; (with_reducible refine (hsp ?_ ?hq161 ?hq162 ?hq163 ?hq164).mono ?_); (case hq161 => (repeat' (first | with_reducible assumption | (with_reducible exact zeros16 _) | (with_reducible exact sl_new1 _ _ _) | (with_reducible first | apply Sl.upE | apply Sl.upA | apply Sl.upD)))); (case hq162 => (repeat' (first | with_reducible assumption | (with_reducible exact zeros16 _) | (with_reducible exact sl_new1 _ _ _) | (with_reducible first | apply Sl.upE | apply Sl.upA | apply Sl.upD)))); (case hq163 => (repeat' (first | with_reducible assumption | (with_reducible exact zeros16 _) | (with_reducible exact sl_new1 _ _ _) | (with_reducible first | apply Sl.upE | apply Sl.upA | apply Sl.upD)))); (case hq164 => (repeat' (first | with_reducible assumption | (with_reducible exact zeros16 _) | (with_reducible exact sl_new1 _ _ _) | (with_reducible first | apply Sl.upE | apply Sl.upA | apply Sl.upD)))); rintro e w1 ⟨rfl, hxq⟩; obtain ⟨xq, rfl⟩ := hxq.out; clear hxq)
          | (refine wpList_wanted (by simp [Region.wanted, yielded, Act.put]) ?_; (refine wpList_load_arr (RP2) rfl _ rfl (g2) (0) rfl ([.slice au 32 cu, .slice ad 32 cd]) (((hP.extB (by repeat (first | (with_reducible first | exact Ext.refl _ | assumption | apply Ext.alloc | apply Ext.ext | apply Ext.drew | refine Ext.setCell ?_ ?_ _) | (focus (simp [go_sem]; done))))).rd)) (rfl) ?_))
          | (refine wpList_wanted (by simp [Region.wanted, yielded, Act.put]) ?_; (refine wpList_load_arr (RP2) rfl _ rfl (g7) (0) rfl ([.slice bu nu du, .slice bd nd dd]) (((hQ.extB (by repeat (first | (with_reducible first | exact Ext.refl _ | assumption | apply Ext.alloc | apply Ext.ext | apply Ext.drew | refine Ext.setCell ?_ ?_ _) | (focus (simp [go_sem]; done))))).rd)) (rfl) ?_))
          | fail)
        go_ret
        exact ⟨rfl, hE.trans (by repeat (first | (with_reducible first | exact Ext.refl _ | assumption | apply Ext.alloc | apply Ext.ext | apply Ext.drew | refine Ext.setCell ?_ ?_ _) | (focus (simp [go_sem]; done))))⟩
end Go.Proofs.Ytkjdlbjbppbmdaa
