/- CipherGoesOn: the law's walk. -/
import Derived.Test.YthooaeeajeajnaaCiphE
namespace Go.Proofs.Ythooaeeajeajnaa
open Go.RowKit Go.Sec Go.Oct Go.Aes Go.Sha BigFrame

theorem sAdr_lt (g o m l : Nat) (h : m ≠ l) : sAdr (some ⟨g, o, none⟩) m l 1 = some ⟨g, o + l, none⟩ := by
  unfold sAdr
  rw [if_neg h]
  simp [addr_add]

set_option maxRecDepth 100000 in
set_option maxHeartbeats 8000000 in
theorem cipherGoesOn_walk (seed n0 : Int) (a2 : Option Addr) (len2 cap2 : Nat) (z2 : List Int) (wrap : Bool) (w : World) (w2 : IsRow .u8 w a2 len2 cap2 z2) :
    Calls Try.prog 7 #[.int .i64 seed, .int .i64 n0, .slice a2 len2 cap2, .bool wrap] w fun e w' => e = .returned (.bool true) ∧ Ext w w' := by
  obtain ⟨hl, hcap⟩ := sl_of_row w2
  generalize rowL z2 len2 = l at *
  clear w2
  by_cases h100 : 100 < len2
  · have hI : (100 : Int) < (len2 : Int) := by omega
    go_enter Try.func7, Try.ntmps7
    go_wp2_with (go_at_call 20; refine (known4_any _).mono ?_; rintro e w1 ⟨rfl, hxq⟩; obtain ⟨xq, rfl⟩ := hxq.out; clear hxq)
    go_returns
    exact ⟨rfl, (by repeat (first | (with_reducible first | exact Ext.refl _ | assumption | apply Ext.alloc | apply Ext.ext | apply Ext.drew | refine Ext.setCell ?_ ?_ _) | (focus (simp [go_sem]; done))))⟩
  · have hI : ¬ (100 : Int) < (len2 : Int) := by omega
    obtain ⟨s, hs⟩ : ∃ s : Nat, seed % 1000 = (s : Int) := ⟨(seed % 1000).toNat, by omega⟩
    have hs1 : s < 1000 := by omega
    have HS := Lib.hid hs
    clear hs
    obtain ⟨m, hm⟩ : ∃ m : Nat, n0 % (((len2 / 16 + 1 : Nat) : Int)) = (m : Int) := ⟨(n0 % (((len2 / 16 + 1 : Nat) : Int))).toNat, by have := Int.emod_nonneg n0 (show ((len2 / 16 + 1 : Nat) : Int) ≠ 0 by omega); omega⟩
    have hm2 : 16 * m ≤ len2 := by
      have := Int.emod_lt_of_pos n0 (show (0 : Int) < ((len2 / 16 + 1 : Nat) : Int) by omega)
      rw [hm] at this
      omega
    have hwm := Lib.hid (show ∀ W, Calls Try.prog 17 #[.int .i64 n0, .int .i64 ((len2 : Int) / 16 + 1)] W fun e w' => e = .returned (.int .i64 (m : Int)) ∧ Ext W w' from fun W => by
      have := within_any n0 ((len2 / 16 + 1 : Nat) : Int) W (by omega) (by omega)
      rw [hm] at this
      have e : ((len2 / 16 + 1 : Nat) : Int) = (len2 : Int) / 16 + 1 := by omega
      rwa [e] at this)
    clear hm
    by_cases hwr : wrap = true
    case' pos =>
      subst hwr
      go_enter Try.func7, Try.ntmps7
      go_wp2_with fail; (with_reducible refine (within_any seed 1000 _ (by omega) (by omega)).mono ?_); rintro e w1 ⟨rfl, hxq⟩; obtain ⟨xq, rfl⟩ := hxq.out; clear hxq
      rw [HS.out]
      go_wp2_with fail; (with_reducible refine (wbytes_any s 32 (by omega) (by omega) _ (by omega) (by omega)).mono ?_); rintro e w2 ⟨a3, c3, rfl, hO2, hx2⟩
      have hle := hO2.le
      have hw2 : Ext w w2 := (Ext.of_ext _ _).trans hx2
      have hO2 := hO2.mono (base' := w.heap.size) (Ext.of_ext w _).size
      obtain ⟨g, rfl, hg, _, _, _, _⟩ := hO2.at 0 (by omega)
      obtain ⟨L, hL⟩ : ∃ L, L = wbytes s 32 := ⟨_, rfl⟩
      rw [← hL] at hO2
      clear hL hx2
      have hc16 : 16 ≤ c3 := by omega
      have hcn : ¬ c3 = 16 := by omega
      have hcI : (16 : Int) ≤ (c3 : Int) := by omega
      have hcs := sAdr_lt g 0 c3 16 hcn
      go_wp2_with fail
      go_loopw [11] (fun v11 wr => ∃ (i : Nat) (L : List UInt8), i ≤ 15 ∧ v11 = .int .i64 i ∧ Sec.Own wr w.heap.size (some ⟨g, 0, none⟩) 32 c3 L ∧ Ext w wr) (fun v11 _ => 15 - (intOf v11).toNat)
      case atStart => exact ⟨0, L, by omega, rfl, hO2, hw2⟩
      obtain ⟨i, L, hi, rfl, hO2, hw2⟩ := hrel
      by_cases hlt : i < 15
      · have i0 : (0 : Int) ≤ (i : Int) := by omega
        have i1 : (i : Int) < 15 := by omega
        obtain ⟨g', hge, _, hgb, hcell, hfr, _⟩ := hO2.at (16 + i) (by omega)
        injection hge with hge
        injection hge with hge
        subst hge
        go_wp2
        go_roundw
        case rel => exact ⟨i + 1, _, by omega, by go_num, hO2.put (16 + i) (by omega) 255, hw2.setCell hg _⟩
        case measure => simp [intOf]; omega
      obtain rfl : i = 15 := by omega
      obtain ⟨g', hge, _, hgb, hcell, hfr, _⟩ := hO2.at 31 (by omega)
      injection hge with hge
      injection hge with hge
      subst hge
      have hO3 : Sec.Own (wr.setCell ⟨g, 31, none⟩ (.int .u8 254)) w.heap.size (some ⟨g, 0, none⟩) 32 c3 (L.set 31 254) := hO2.put 31 (by omega) 254
      have hw3 : Ext w (wr.setCell ⟨g, 31, none⟩ (.int .u8 254)) := hw2.setCell hg _
      go_wp2_with fail
      generalize wr.setCell ⟨g, 31, none⟩ (.int .u8 254) = W3 at *
      generalize L.set 31 254 = L3 at *
    case' neg =>
      obtain rfl : wrap = false := by simpa using hwr
      go_enter Try.func7, Try.ntmps7
      go_wp2_with fail; (with_reducible refine (within_any seed 1000 _ (by omega) (by omega)).mono ?_); rintro e w1 ⟨rfl, hxq⟩; obtain ⟨xq, rfl⟩ := hxq.out; clear hxq
      rw [HS.out]
      go_wp2_with fail; (with_reducible refine (wbytes_any s 32 (by omega) (by omega) _ (by omega) (by omega)).mono ?_); rintro e w2 ⟨a3, c3, rfl, hO2, hx2⟩
      have hle := hO2.le
      have hw2 : Ext w w2 := (Ext.of_ext _ _).trans hx2
      have hO2 := hO2.mono (base' := w.heap.size) (Ext.of_ext w _).size
      obtain ⟨g, rfl, hg, _, _, _, _⟩ := hO2.at 0 (by omega)
      obtain ⟨L, hL⟩ : ∃ L, L = wbytes s 32 := ⟨_, rfl⟩
      rw [← hL] at hO2
      clear hL hx2
      have hc16 : 16 ≤ c3 := by omega
      have hcn : ¬ c3 = 16 := by omega
      have hcI : (16 : Int) ≤ (c3 : Int) := by omega
      have hcs := sAdr_lt g 0 c3 16 hcn
      go_wp2_with fail
      have hO3 := hO2
      have hw3 := hw2
      generalize w2 = W3 at *
      generalize L = L3 at *
    all_goals
      have hk := hO3.sl.take 16 (by omega)
      have hb := hO3.sl.drop c3 16 hle.1
      rw [hcs, Nat.zero_add] at hb
      generalize L3.take 16 = ky at *
      generalize L3.drop 16 = ctr at *
      clear hO3 hO2
      go_wp2_with fail; (with_reducible refine (hwm.out _).mono ?_); rintro e w1 ⟨rfl, hxq⟩; obtain ⟨xq, rfl⟩ := hxq.out; clear hxq
      have hw4 := hw3.ext xq
      have hk4 := hk.ext (Ext.of_ext W3 xq)
      have hb4 := hb.ext (Ext.of_ext W3 xq)
      have hl4 := hl.ext hw4
      generalize W3.ext xq = W4 at *
      clear hk hb hw3
      go_wp2_with fail
      go_loopw [12, 13] (fun v12 v13 wr => ∃ (i : Nat) (al : Option Addr) (cl : Nat), i ≤ m ∧ v13 = .int .i64 i ∧ v12 = .slice al 16 cl ∧ 16 ≤ cl ∧ Sl wr al 16 (nxtN i ctr) ∧ Ext W4 wr) (fun _ v13 _ => m - (intOf v13).toNat)
      case atStart => exact ⟨0, _, _, by omega, rfl, rfl, by omega, hb4, Ext.refl _⟩
      case round =>
        obtain ⟨i, al, cl, hi, rfl, rfl, hcl, hSl, hx⟩ := hrel
        by_cases hlt : i < m
        · have HN := Lib.hid (show nxtN (i + 1) ctr = nxt (nxtN i ctr) from rfl)
          go_wp2_with fail; (with_reducible refine (next_any al cl _ _ hSl).mono ?_); rintro e w5 ⟨a5, c5, rfl, hO5, hx5⟩
          have hle5 := hO5.le
          go_wp2_with fail
          go_roundw
          case rel => exact ⟨i + 1, a5, c5, by omega, by go_num, rfl, hle5.1, by rw [HN.out]; exact hO5.sl, hx.trans hx5⟩
          case measure => simp [intOf]; omega
        · obtain rfl : i = m := by omega
          have hkr := hk4.ext hx
          have hbr := hb4.ext hx
          have hlr := hl4.ext hx
          have hwr4 := hw4.trans hx
          have hxl : (stream ky ctr l).length = len2 := by rw [stream, streamK_length]; exact hl.len
          have hlt2 := Lib.hid (show (stream ky ctr l).drop (16 * i) = stream ky (nxtN i ctr) (l.drop (16 * i)) from streamK_later _ _ _ _ (by rw [hl.len]; exact hm2))
          have hi0 : (0 : Int) ≤ 16 * (i : Int) := by omega
          have hi1 : 16 * (i : Int) ≤ (len2 : Int) := by omega
          have hi2 : (16 * (i : Int)).toNat = 16 * i := by omega
          have hld := hlr.drop cap2 (16 * i) hcap
          obtain ⟨rr, hrr⟩ : ∃ rr, len2 - 16 * i = rr := ⟨_, rfl⟩
          rw [hrr] at hld
          clear hk4 hb4 hl4 hx hw4
          go_wp2_with fail; (with_reducible refine (stream_any _ _ _ _ _ _ _ _ _ _ _ hkr hc16 hbr (by omega) hlr (by omega)).mono ?_); rintro e w6 ⟨a6, c6, rfl, hX, hXc, hx6⟩
          go_wp2_with fail
          have hk6 := hkr.ext hx6
          have hS6 := hSl.ext hx6
          have hl6 := hld.ext hx6
          refine wp_region_vague 13 [[], [0], [], [], [], [4], [3, 4, 5], [0, 1, 2, 3, 4, 5, 6], [0, 1, 2, 3, 4, 5, 6, 7], [0, 1, 2, 3, 4, 5, 6, 7, 8], [0, 1, 2, 3, 4, 5, 6, 7, 8], [0, 1, 2, 3, 4, 5, 6, 7, 8, 9], [0, 1, 2, 3, 4, 5, 6, 7, 8, 9, 10, 11]] (by kernel_rfl) (by kernel_rfl) (by kernel_rfl) (by kernel_rfl) ?_; simp only [List.take_succ_cons, List.take_zero, List.drop_succ_cons, List.drop_zero, List.take_nil, List.drop_nil]
          (repeat (apply VD_der; (case h => (intro us w' hx hf; obtain ⟨x, rfl⟩ := hx.out; refine ⟨rfl, ?_⟩; simp [go_sem, execOp, *]; (try simp (disch := omega) only [Go.IntWalk.i64_in, Go.IntWalk.rem_in, Go.IntWalk.wrap64_in]); rfl)); (try simp only [Act.put, List.setIfInBounds_toArray, List.set_cons_succ, List.set_cons_zero])))
          (refine VD_vag (fun p => .tuple #[.slice (p 0).1 (rr) (p 0).2, .int .i64 0]) (fun p w'' => Sl w'' (p 0).1 (rr) (stream ky (nxtN i ctr) (l.drop (16 * i))) ∧ (rr) ≤ (p 0).2) (fun p w w' h hx => ⟨h.1.ext hx, h.2⟩) (fun us w' hx hf => ⟨rfl, ?_⟩) ?_; (unfold gives; simp [go_sem, execOp]; exact vag_read (stream_any _ _ _ _ _ _ _ _ _ _ _ (hk6.ext hx) hc16 (hS6.ext hx) hcl (hl6.ext hx) (by omega))))
          (repeat (apply VD_der; (case h => (intro us w' hx hf; obtain ⟨x, rfl⟩ := hx.out; refine ⟨rfl, ?_⟩; simp [go_sem, execOp, *]; (try simp (disch := omega) only [Go.IntWalk.i64_in, Go.IntWalk.rem_in, Go.IntWalk.wrap64_in]); rfl)); (try simp only [Act.put, List.setIfInBounds_toArray, List.set_cons_succ, List.set_cons_zero])))
          (refine VD_nil ?_; intro us w' hx hf; obtain ⟨x, rfl⟩ := hx.out; (try simp only [Act.put, List.setIfInBounds_toArray, List.set_cons_succ, List.set_cons_zero, wpList_none]); (try simp only [List.mem_cons, List.not_mem_nil, or_false, forall_eq_or_imp, forall_eq, List.nil_append, List.cons_append, List.mem_append, false_or, true_and, and_true] at hf); (try simp only [Nat.reduceAdd, Nat.zero_add] at hf); (try simp only [Nat.reduceAdd, Nat.zero_add]))
          obtain ⟨hY, hYc⟩ := hf
          generalize (us 7 0).1 = p2 at *
          generalize (us 7 0).2 = q2 at *
          have hX2 := hX.ext hx
          have hw6 := hwr4.trans hx6
          have hXd := hX2.drop c6 (16 * i) hXc
          rw [hlt2.out] at hXd
          go_wp2_with fail; (with_reducible refine (known4_any _).mono ?_); rintro e w1 ⟨rfl, hxq⟩; obtain ⟨xq, rfl⟩ := hxq.out; clear hxq
          rw [hrr] at hXd
          go_wp2_with fail; (with_reducible refine (same_any _ p2 rr _ rr q2 _ _ _ (hXd.ext (Ext.of_ext _ _)) (hY.ext (Ext.of_ext _ _))).mono ?_); rintro e w1 ⟨rfl, hxq⟩; obtain ⟨xq, rfl⟩ := hxq.out; clear hxq
          rw [beq_self_eq_true]
          go_wp2
          go_returns
          exact ⟨rfl, (by repeat (first | (with_reducible first | exact Ext.refl _ | assumption | apply Ext.alloc | apply Ext.ext | apply Ext.drew | refine Ext.setCell ?_ ?_ _) | (focus (simp [go_sem]; done))))⟩
end Go.Proofs.Ythooaeeajeajnaa
