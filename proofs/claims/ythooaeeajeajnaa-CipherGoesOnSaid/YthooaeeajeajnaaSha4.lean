/- The document's SHA-256: the whole; the bytes of the statements' kit. -/
import Derived.Test.YthooaeeajeajnaaSha3
import Derived.Test.YthooaeeajeajnaaWorld
import Derived.Test.YthooaeeajeajnaaOwn
namespace Go.Proofs.Ythooaeeajeajnaa
open Go.RowKit Go.Sec Go.Oct Go.Sha BigFrame

set_option maxRecDepth 100000 in
set_option maxHeartbeats 4000000 in
theorem sum_any (a : Option Addr) (n c : Nat) (b : List UInt8) (w : World) (Hb : Sl w a n b) (hnc : n ≤ c) (hn : n ≤ 1000000) :
    Calls Try.prog 54 #[.slice a n c] w (Fresh 32 (sha b) w) := by
  obtain ⟨nb, hnb⟩ : ∃ nb, nb = n / 64 := ⟨_, rfl⟩
  have hlen := Lib.hid Hb.len
  have h64 : 64 * nb ≤ n := by omega
  have hdiv : (n : Int) / 64 = (nb : Int) := by omega
  have h1 : nb ≤ 1000000 := by omega
  have h2 : (n : Int) - 64 * (nb : Int) ≤ 63 := by omega
  have HF := Lib.hid (show sha b = fin (blocks h0 b nb) (b.drop (64 * nb)) n by unfold sha; rw [Hb.len, ← hnb, Nat.mul_comm])
  have hdiv2 := Lib.hid hdiv
  clear hnb hdiv
  go_enter Try.func54, Try.ntmps54
  go_wp2_with fail
  refine (first_any _).mono ?_
  rintro e w1 ⟨ah, ch, rfl, Hh, hx1⟩
  go_wp2_with fail
  refine (consts_any _).mono ?_
  rintro e w2 ⟨ak, ck, rfl, Hk, hx2⟩
  have hdiv3 := hdiv2.out
  have hm : (nb : Int) * 64 = 64 * (nb : Int) := by omega
  go_wp2
  have Hh2 := Hh.ext hx2
  have Hb2 := Hb.ext (hx1.trans hx2)
  clear hdiv3 hm
  go_loopw [3, 6] (fun v3 v6 wr => ∃ (k : Nat) (ah : Option Addr) (ch' : Nat), k ≤ nb ∧ v6 = .int .i64 (64 * (k : Int)) ∧ v3 = .slice ah 8 ch' ∧ Sw wr ah 8 (blocks h0 b k) ∧ Ext w2 wr) (fun _ v6 _ => 64 * nb - (intOf v6).toNat)
  case atStart => exact ⟨0, ah, ch, by omega, rfl, rfl, Hh2, Ext.refl _⟩
  case round =>
    obtain ⟨k, ah, ch', hk, rfl, rfl, Hhk, hxk⟩ := hrel
    by_cases hlt : k < nb
    · have HB := Lib.hid (show blocks h0 b (k + 1) = block (blocks h0 b k) ((b.drop (64 * k)).take 64) from rfl)
      have HS := ((Hb2.ext hxk).drop c (64 * k) (by omega)).take 64 (by omega)
      go_wp2_with fail
      (with_reducible refine (rblock_any _ _ _ _ _ _ _ _ _ Hhk (Hk.ext hxk) HS).mono ?_)
      rintro e w6 ⟨a6, c6, rfl, H6, hx6⟩
      go_wp2
      go_roundw
      case rel => exact ⟨k + 1, a6, c6, by omega, by go_num, rfl, by rw [HB.out]; exact H6, hxk.trans hx6⟩
      case measure => simp [intOf]; omega
    · obtain rfl : k = nb := by omega
      have HS := (Hb2.ext hxk).drop c (64 * k) (by omega)
      generalize blocks h0 b k = hs at *
      go_wp2_with fail; (with_reducible refine (finish_any _ _ _ _ _ _ hs _ _ Hhk HS (by omega) (by omega)).mono ?_); rintro e w7 ⟨a7, c7, rfl, hO7, hx7⟩
      go_wp2
      go_ret
      have hxa := hx1.trans (hx2.trans hxk)
      exact ⟨_, _, rfl, by rw [HF.out]; exact hO7.mono hxa.size, hxa.trans hx7⟩

set_option maxRecDepth 100000 in
set_option maxHeartbeats 4000000 in
theorem wbytes_any (s n : Nat) {sI nI : Int} (hs : sI = (s : Int)) (hn : nI = (n : Int)) (w : World) (hs2 : s ≤ 4611686018427387904) (hn2 : n ≤ 1000000) :
    Calls Try.prog 16 #[.int .i64 sI, .int .i64 nI] w (Fresh n (wbytes s n) w) := by
  subst hs hn
  obtain ⟨m, hm⟩ : ∃ m, m = (n + 31) / 32 := ⟨_, rfl⟩
  have HW := Lib.hid (show wbytes s n = (wbTo s m).take n by rw [hm]; rfl)
  have hm1 : 32 * m < n + 32 := by omega
  have hm2 : n ≤ 32 * m := by omega
  have hmx : max (n : Int) 0 = (n : Int) := by omega
  have hsv := Lib.hid (show (s : Int) = n64 (UInt64.ofNat s) by unfold n64; rw [UInt64.toNat_ofNat']; omega)
  clear hm
  go_enter Try.func16, Try.ntmps16
  go_wp2
  go_loopw [5, 6] (fun v5 v6 wr => ∃ (k : Nat) (sa : Option Addr) (sc : Nat), k ≤ m ∧ v6 = .int .i64 k ∧ v5 = .slice sa (32 * k) sc ∧ Own wr w.heap.size sa (32 * k) sc (wbTo s k) ∧ Ext w wr) (fun _ v6 _ => m - (intOf v6).toNat)
  case atStart => exact ⟨0, _, _, by omega, rfl, rfl, own_empty _, (by repeat (first | (with_reducible first | exact Ext.refl _ | assumption | apply Ext.alloc | apply Ext.ext | apply Ext.drew | refine Ext.setCell ?_ ?_ _) | (focus (simp [go_sem]; done))))⟩
  case round =>
    obtain ⟨k, sa, sc, hk, rfl, rfl, hO, hx⟩ := hrel
    by_cases hlt : k < m
    · have HS := Lib.hid (wbTo_succ s k)
      have hkv := Lib.hid (show (k : Int) = n64 (UInt64.ofNat k) by unfold n64; rw [UInt64.toNat_ofNat']; omega)
      go_wp2_with fail; (with_reducible refine (put_n (UInt64.ofNat s) 8 hsv.out (by omega) _ (by omega)).mono ?_); rintro e w1 ⟨a1, c1, rfl, hO1, hx1⟩
      go_wp2_with fail; (with_reducible refine (put_n (UInt64.ofNat k) 4 hkv.out (by omega) _ (by omega)).mono ?_); rintro e w2 ⟨a2, c2, rfl, hO2, hx2⟩
      go_wp2_with fail; (with_reducible refine (join_any _ _ _ _ _ (bss2 (hO1.sl.ext hx2) hO2.sl _) (by omega) 12 (by simp [joinL2, putL_length]) (by omega)).mono ?_); rintro e w3 ⟨a3, c3, rfl, hO3, hx3⟩
      rw [joinL2] at hO3
      have hle3 := hO3.le
      go_wp2_with fail; (with_reducible refine (sum_any _ _ _ _ _ hO3.sl hle3.1 (by omega)).mono ?_); rintro e w4 ⟨a4, c4, rfl, hO4, hx4⟩
      have hx' : Ext wr w4 := Ext.trans (Ext.trans (Ext.alloc (hx1.trans hx2) _) hx3) hx4
      go_wp2_with (at_builtin; refine wpList_append_by U rfl _ _ rfl w.heap.size sa _ sc _ rfl _ 32 _ _ rfl (hO.ext hx') hO4.sl (by omega) (by have := hx.size; have := hx'.size; omega) ?_; intro a5 c5 w5 hO5 hg5 hB5)
      go_roundw
      case rel => exact ⟨k + 1, a5, c5, by omega, by go_num, rfl, by rw [HS.out]; exact hO5, Below.trans (b := w4) (hx.trans hx') hB5⟩
      case measure => simp [intOf]; omega
    · obtain rfl : k = m := by omega
      have hle := hO.le
      go_wp2
      go_ret
      exact ⟨_, _, rfl, by rw [HW.out]; exact hO.pre n hm2, hx⟩

set_option maxRecDepth 100000 in
theorem key_any (s : Nat) {sI : Int} (hs : sI = (s : Int)) (w : World) (hs2 : s ≤ 4611686018427387904) :
    Calls Try.prog 44 #[.int .i64 sI] w (Fresh 32 (wbytes s 32) w) := by
  subst hs
  go_enter Try.func44, Try.ntmps44
  go_wp2_with fail; (with_reducible refine (wbytes_any s 32 (by omega) (by omega) _ hs2 (by omega)).mono ?_); rintro e w1 ⟨a1, c1, rfl, hO1, hx1⟩
  go_wp2
  go_ret
  exact ⟨_, _, rfl, hO1, hx1⟩

/-- With one byte changed. -/
def chg (l : List UInt8) (at' by' : Int) : List UInt8 := l.set (at' % (l.length : Int)).toNat (l.getD (at' % (l.length : Int)).toNat 0 ^^^ b8 (1 + by' % 255))

set_option maxRecDepth 100000 in
set_option maxHeartbeats 4000000 in
theorem changed_any (a : Option Addr) (n c : Nat) (l : List UInt8) (at' by' : Int) (w : World) (H : Sl w a n l) (hn : 1 ≤ n) (hn2 : n ≤ 1000000) :
    Calls Try.prog 19 #[.slice a n c, .int .i64 at', .int .i64 by'] w (Fresh n (chg l at' by') w) := by
  go_enter Try.func19, Try.ntmps19
  go_wp2_with fail; (with_reducible refine (join_any _ _ _ _ _ (bss1 H _) (by omega) n (by simp [joinL1, H.len]) (by omega)).mono ?_); rintro e w1 ⟨a1, c1, rfl, hO1, hx1⟩
  rw [joinL1] at hO1
  have hlt := Int.emod_lt_of_pos at' (show (0 : Int) < (n : Int) by omega)
  have hge := Int.emod_nonneg at' (show (n : Int) ≠ 0 by omega)
  obtain ⟨i, hi⟩ : ∃ i : Nat, at' % (n : Int) = (i : Int) := ⟨(at' % (n : Int)).toNat, by omega⟩
  have hin : i < n := by omega
  obtain ⟨bv, hbv⟩ : ∃ bv : Int, by' % 255 = bv := ⟨_, rfl⟩
  have hb0 : 0 ≤ bv := by omega
  have hb1 : bv < 255 := by omega
  have HC := Lib.hid (show chg l at' by' = l.set i (l.getD i 0 ^^^ b8 (1 + bv)) by unfold chg; rw [H.len, hi, hbv]; rfl)
  have hwr := Lib.hid (show 1 + bv = n8 (b8 (1 + bv)) by rw [n8_b8]; omega)
  clear hlt hge
  obtain ⟨g, rfl, hg, hgb, hcell, hfr, hset⟩ := hO1.at i hin
  have hw1 := Lib.hid (show ∀ W, Calls Try.prog 17 #[.int .i64 at', .int .i64 (n : Int)] W fun e w' => e = .returned (.int .i64 (i : Int)) ∧ Ext W w' from fun W => by rw [← hi]; exact within_any at' n W (by omega) (by omega))
  have hw2 := Lib.hid (show ∀ W, Calls Try.prog 17 #[.int .i64 by', .int .i64 255] W fun e w' => e = .returned (.int .i64 bv) ∧ Ext W w' from fun W => by rw [← hbv]; exact within_any by' 255 W (by omega) (by omega))
  clear hi hbv
  have hin2 : (i : Int) < (n : Int) := by omega
  go_wp2_with fail
  refine wp_region_vague 13 [[], [], [], [2], [1, 2, 3], [0, 1, 2, 3, 4], [0, 1, 2, 3, 4, 5], [], [1, 2, 3, 4, 7], [1, 2, 3, 4, 7, 8], [1, 2, 3, 4, 7, 8, 9], [0, 1, 2, 3, 4, 5, 6, 7, 8, 9, 10], [0, 1, 2, 3, 4, 5, 6, 7, 8, 9, 10, 11], [0, 1, 2, 3, 4, 5, 6, 7, 8, 9, 10, 11, 12]] (by kernel_rfl) (by kernel_rfl) (by kernel_rfl) (by kernel_rfl) ?_; simp only [List.take_succ_cons, List.take_zero, List.drop_succ_cons, List.drop_zero, List.take_nil, List.drop_nil]
  (repeat (apply VD_der; (case h => (intro us w' hx hf; obtain ⟨x, rfl⟩ := hx.out; refine ⟨rfl, ?_⟩; simp [go_sem, execOp, *]; (try simp (disch := omega) only [Go.IntWalk.i64_in, Go.IntWalk.rem_in, Go.IntWalk.wrap64_in]); rfl)); (try simp only [Act.put, List.setIfInBounds_toArray, List.set_cons_succ, List.set_cons_zero])))
  (refine VD_vag (fun _ => .int .i64 (i : Int)) (fun _ _ => True) (fun _ _ _ _ _ => trivial) (fun us w' hx hf => ⟨rfl, ?_⟩) ?_; (unfold gives; simp [go_sem, execOp]; refine (hw1.out _).mono ?_; rintro e w1 ⟨rfl, hx1⟩; first | exact ⟨rfl, hx1⟩ | simpa using hx1))
  (repeat (apply VD_der; (case h => (intro us w' hx hf; obtain ⟨x, rfl⟩ := hx.out; refine ⟨rfl, ?_⟩; simp [go_sem, execOp, *]; (try simp (disch := omega) only [Go.IntWalk.i64_in, Go.IntWalk.rem_in, Go.IntWalk.wrap64_in]); rfl)); (try simp only [Act.put, List.setIfInBounds_toArray, List.set_cons_succ, List.set_cons_zero])))
  (refine VD_vag (fun _ => .int .i64 bv) (fun _ _ => True) (fun _ _ _ _ _ => trivial) (fun us w' hx hf => ⟨rfl, ?_⟩) ?_; (unfold gives; simp [go_sem, execOp]; refine (hw2.out _).mono ?_; rintro e w1 ⟨rfl, hx1⟩; first | exact ⟨rfl, hx1⟩ | simpa using hx1))
  (repeat (apply VD_der; (case h => (intro us w' hx hf; obtain ⟨x, rfl⟩ := hx.out; refine ⟨rfl, ?_⟩; simp [go_sem, execOp, *]; (try simp (disch := omega) only [Go.IntWalk.i64_in, Go.IntWalk.rem_in, Go.IntWalk.wrap64_in]); rfl)); (try simp only [Act.put, List.setIfInBounds_toArray, List.set_cons_succ, List.set_cons_zero])))
  (refine VD_nil ?_; intro us w' hx hf; obtain ⟨x, rfl⟩ := hx.out; (try simp only [Act.put, List.setIfInBounds_toArray, List.set_cons_succ, List.set_cons_zero, wpList_none]); (try simp only [List.mem_cons, List.not_mem_nil, or_false, forall_eq_or_imp, forall_eq, List.nil_append, List.cons_append, List.mem_append, false_or, true_and, and_true] at hf); (try simp only [Nat.reduceAdd, Nat.zero_add] at hf); (try simp only [Nat.reduceAdd, Nat.zero_add]))
  go_wp2
  go_ret
  have hv : bits .xor .u8 (n8 (l[i]?.getD 0)) (1 + bv) = n8 (l.getD i 0 ^^^ b8 (1 + bv)) := by
    rw [hwr.out, Go.Sec.u8_xor, ← hwr.out]; simp
  rw [hv]
  have hgw : w.heap.size ≤ g := by simp at hg; omega
  refine ⟨_, _, rfl, ?_, Ext.setCell (Ext.ext (Ext.trans (Ext.of_alloc _ _) hx1) _) hgw _⟩
  rw [HC.out]
  obtain ⟨g', he, _, _, _, _, hs⟩ := (hO1.ext (Ext.of_ext _ x)).at i hin
  injection he with he
  injection he with he
  subst he
  exact (hs _).mono (by simp)
end Go.Proofs.Ythooaeeajeajnaa
