/- Lemmas of this claim, several texts joined. -/
import Derived.Test.YtbfgeokngekdmaaGreatZ3
import Derived.Test.YtbfgeokngekdmaaGreatZ11
import Derived.Test.YtbfgeokngekdmaaGreatZ33
import Derived.Test.YtbfgeokngekdmaaGreatZ34
set_option linter.unusedVariables false
set_option linter.unusedSimpArgs false
/- The walks of layer 19 of the document: Rotate. -/
namespace Go.Sec
open Go.RowKit
/-- A struct of a number and bytes in a block of its own, the bytes in a row of bytes. -/
def NewI (T : TypeId) (id : Int) (l : List UInt8) (w : World) (a : Option Addr) : Prop := ∃ g ga n cc, a = some ⟨g, 0, none⟩ ∧ Rd w a [.int .i64 id, .slice ga n cc] ∧ Sl w ga n l ∧ n ≤ cc ∧ ∀ base, InT T w base ga n
theorem NewI.ext {T : TypeId} {id : Int} {l : List UInt8} {w w' : World} {a : Option Addr} (h : NewI T id l w a) (hx : Ext w w') : NewI T id l w' a := by
  obtain ⟨g, ga, n, cc, h1, h2, h3, h4, h5⟩ := h
  exact ⟨g, ga, n, cc, h1, h2.ext hx, h3.ext hx, h4, fun b => (h5 b).ext hx⟩
theorem NewI.mk {T : TypeId} {id : Int} {l : List UInt8} {w : World} {ga : Option Addr} {n cc base : Nat} (h : Own w base ga n cc l) (hT : 5 ≠ T) : NewI T id l (w.alloc (.cells #[.int .i64 id, .slice ga n cc] T)) (some ⟨w.heap.size, 0, none⟩) :=
  ⟨_, ga, n, cc, rfl, (Blk.new w #[.int .i64 id, .slice ga n cc] T).rd, h.sl.ext (Ext.of_alloc _ _), h.le.1, fun b => (h.ext (Ext.of_alloc _ _)).inT hT⟩
end Go.Sec
namespace Go.Proofs.YtbfgeokngekdmaaGreat
open Go.RowKit Go.Sec Go.Oct Go.Sha Go.Aes Go.Cook Go.Chan BigFrame

set_option maxRecDepth 100000 in
set_option maxHeartbeats 8000000 in
theorem rcrotate_any (a : Option Addr) (n c : Nat) (r : Ring) (w : World) (hI : Ib w a n r) (hnc : n ≤ c) (hn : n ≤ 1000000) :
    Calls Tryz.prog 16 #[.agg #[.slice a n c]] w (RingP (rotateE r) w) := by
  have hval := fun W h => rckvalid_any a n c r W h hnc hn
  have hrl := hI.len
  cases hv : validR r
  · have e : rotateE r = ([], 3) := by unfold rotateE; rw [if_pos hv]
    rw [e]
    rw [hv] at hval
    go_enter Tryz.func16, Tryz.ntmps16
    go_wp2_with (first
      | (go_at_call 17; refine (hval _ (hI.ext (by repeat (first | (with_reducible first | exact Ext.refl _ | assumption | apply Ext.alloc | apply Ext.ext | apply Ext.drew | refine Ext.setCell ?_ ?_ _) | (focus (simp [go_sem]; done)))))).mono ?_; rintro e w1 ⟨rfl, hxq⟩; obtain ⟨xq, rfl⟩ := hxq.out; clear hxq)
      | fail)
    refine bodyPost_ret (v := .tuple #[.agg #[.slice none 0 0], .int .i64 3]) (by simp [results, Tryz.results16, go_sem]) rfl ?_
    exact RingP.err _ _ _ (by repeat (first | (with_reducible first | exact Ext.refl _ | assumption | apply Ext.alloc | apply Ext.ext | apply Ext.drew | refine Ext.setCell ?_ ?_ _) | (focus (simp [go_sem]; done))))
  · rw [hv] at hval
    obtain ⟨v1, v2, v3, v4⟩ := validR_iff.1 hv
    obtain ⟨x0, hx0⟩ : ∃ x, r[0]? = some x := ⟨_, List.getElem?_eq_getElem (by omega)⟩
    have hhd : hd r = x0 := by unfold hd; rw [List.getD_eq_getElem?_getD, hx0]; rfl
    obtain ⟨x1, x2, x3⟩ := v1 x0 (List.mem_of_getElem? hx0)
    obtain ⟨id, ky⟩ := x0
    simp only at x1 x2 x3
    obtain ⟨K, hK⟩ : ∃ K, expandK ky nextS 32 = K := ⟨_, rfl⟩
    have hrot : rotR r = ((id + 1) % 4294967296, K) :: r.take 3 := by unfold rotR; rw [hhd, hK]
    have hbits := i64_and32 (id + 1)
    obtain ⟨nid, hnid⟩ : ∃ i, (id + 1) % 4294967296 = i := ⟨_, rfl⟩
    rw [hnid] at hrot hbits
    obtain ⟨m, hm⟩ : ∃ m : Nat, m = min n 3 := ⟨_, rfl⟩
    have hmn : m ≤ n := by omega
    have hm3 : m ≤ 3 := by omega
    have htk : r.take 3 = r.take m := by
      by_cases h : n ≤ 3
      · rw [List.take_of_length_le (by omega), List.take_of_length_le (by omega)]
      · rw [show m = 3 by omega]
    rw [htk] at hrot
    obtain ⟨b, off, g, cg, rfl, hb, hc0, hc1, hSd, hcd⟩ := hI.at 0 (by omega) _ hx0
    simp only at hc0 hc1 hSd hcd
    rw [x3] at hc1 hSd hcd
    rw [Nat.zero_mul, Nat.add_zero] at hc0 hc1
    have hbad : (∃ q ∈ r.take m, q.1 = nid) → rotateE r = ([], 7) := fun ⟨q, h1, h2⟩ => by
      unfold rotateE
      rw [if_neg (by rw [hv]; simp), if_pos (by rw [hhd, htk]; simp only [hnid]; exact List.mem_map.2 ⟨q, h1, h2⟩)]
    have hgood : (∀ q ∈ r.take m, q.1 ≠ nid) → rotateE r = ((nid, K) :: r.take m, 0) := fun h => by
      unfold rotateE
      rw [if_neg (by rw [hv]; simp), if_neg (by
        rw [hhd, htk]; simp only [hnid]
        intro hm
        obtain ⟨q, h1, h2⟩ := List.mem_map.1 hm
        exact h q h1 h2), hrot]
    have hbad := Lib.hid hbad
    have hgood := Lib.hid hgood
    have HM := Lib.hid hm
    have hex := fun W b' d H1 H2 => rexpand_any g b' 32 cg 12 d 32 (rfl : (32 : Int) = ((32 : Nat) : Int)) ky nextS W H1 hcd (by omega) H2 (by decide) (by decide)
    rw [hK] at hex
    have hcv := fun W => Lib.run_convert_bytes_const (P := Tryz.prog) W 27 5 #[.int .u8 115, .int .u8 101, .int .u8 99, .int .u8 116, .int .u8 105, .int .u8 109, .int .u8 101, .int .u8 32, .int .u8 110, .int .u8 101, .int .u8 120, .int .u8 116] 12 12 U.sl hu8
    clear hrot hK hhd htk hm
    haveI := hb
    have hn0 : 0 < n := by omega
    go_enter Tryz.func16, Tryz.ntmps16
    go_wp2_with (first
      | (go_at_call 17; refine (hval _ (hI.ext (by repeat (first | (with_reducible first | exact Ext.refl _ | assumption | apply Ext.alloc | apply Ext.ext | apply Ext.drew | refine Ext.setCell ?_ ?_ _) | (focus (simp [go_sem]; done)))))).mono ?_; rintro e w1 ⟨rfl, hxq⟩; obtain ⟨xq, rfl⟩ := hxq.out; clear hxq)
      | fail)
    generalize hX : ((w.alloc (.cells #[.slice (some ⟨b, off, none⟩) n c] 24)).alloc (.cells #[.slice none 0 0] 24)).ext xq = X
    have hEX : Ext w X := by rw [← hX]; exact (by repeat (first | (with_reducible first | exact Ext.refl _ | assumption | apply Ext.alloc | apply Ext.ext | apply Ext.drew | refine Ext.setCell ?_ ?_ _) | (focus (simp [go_sem]; done))))
    have hB1 : Blk X w.heap.size 24 [.slice (some ⟨b, off, none⟩) n c] := by rw [← hX]; exact (by repeat (first | assumption | (refine Blk.newAt _ _ _ _ ?_; first | rfl | (simp only [World.size_alloc]; done)) | apply Blk.ext | apply Blk.alloc | (refine Blk.other ?_ ?_ _; rotate_left; (simp <;> omega))))
    have hB2 : Blk X (w.heap.size + 1) 24 [.slice none 0 0] := by rw [← hX]; exact (by repeat (first | assumption | (refine Blk.newAt _ _ _ _ ?_; first | rfl | (simp only [World.size_alloc]; done)) | apply Blk.ext | apply Blk.alloc | (refine Blk.other ?_ ?_ _; rotate_left; (simp <;> omega))))
    clear hX
    have hxa := Ext.of_alloc X (.cells #[.int .u8 115, .int .u8 101, .int .u8 99, .int .u8 116, .int .u8 105, .int .u8 109, .int .u8 101, .int .u8 32, .int .u8 110, .int .u8 101, .int .u8 120, .int .u8 116] 5 (12, 13))
    (with_reducible refine (hex _ _ _ (hSd.ext (hEX.trans hxa)) (sl_nextS X 5 (12, 13))).mono ?_)
    rintro e w1 ⟨b1, d1, rfl, hS1, hd1, hx1⟩
    have hx1 := hxa.trans hx1
    have hE1 := hEX.trans hx1
    have hB1 := hB1.extB hx1
    have hB2 := hB2.extB hx1
    have hlt2 := hB2.lt
    have hc0 := (hE1.cell (p := ⟨b, _, none⟩) hb.lt).trans hc0
    haveI : BlkLt b w1 := ⟨Nat.lt_of_lt_of_le hb.lt hE1.size⟩
    haveI := hB1.blt
    haveI := hB2.blt
    have f0 := hB1.cell? 0 rfl
    clear hxa hx1 hEX hex hcv
    have hO0 : OwnI 48 (w1.alloc (.cells #[.int .i64 nid, .slice b1 32 d1] 48)) w1.heap.size (some ⟨w1.heap.size, 0, none⟩) 1 1 [(nid, K)] := OwnI.new hS1 hd1 (Nat.le_refl _) (hS1.inT _)
    go_wp2_with (first
      | (refine wpList_alloc_store (RR1) rfl rfl _ _ rfl rfl rfl rfl (by simp [Act.put]) ([.slice (some ⟨w1.heap.size, 0, none⟩) 1 1]) rfl (by simp) (rfl) ((by simp; repeat' (first | rfl | constructor))) ?_; intro x hz _)
      | fail)
    obtain ⟨W, hW⟩ : ∃ W, W = (w1.alloc (.cells #[.int .i64 nid, .slice b1 32 d1] 48)).ext x := ⟨_, rfl⟩
    have hxW : Ext w1 W := by rw [hW]; exact (by repeat (first | (with_reducible first | exact Ext.refl _ | assumption | apply Ext.alloc | apply Ext.ext | apply Ext.drew | refine Ext.setCell ?_ ?_ _) | (focus (simp [go_sem]; done))))
    have hO0 : OwnI 48 W w1.heap.size (some ⟨w1.heap.size, 0, none⟩) 1 1 [(nid, K)] := by rw [hW]; exact hO0.ext (Ext.of_ext _ _)
    rw [← hW] at hz ⊢
    rw [World.size_alloc] at hz
    clear hW f0
    have hBW := hxW.size
    have hEW := hE1.trans hxW
    have hB1 := hB1.extB hxW
    have hB2 := hB2.extB hxW
    obtain ⟨B, hBe⟩ : ∃ B, B = w1.heap.size := ⟨_, rfl⟩
    rw [← hBe] at hO0 hz hBW hlt2 ⊢
    clear hBe hc0 hxW hE1 hS1 hd1
    go_loopw [7] (fun v7 wr => ∃ (k : Nat) (sa : Option Addr) (sc : Nat), k ≤ m ∧ v7 = .int .i64 k ∧ Hid (∀ q ∈ r.take k, q.1 ≠ nid) ∧ OwnI 48 wr B sa (k + 1) sc ((nid, K) :: r.take k) ∧ Blk wr (B + 1) 24 [.slice sa (k + 1) sc] ∧ B ≤ wr.heap.size ∧ Blk wr w.heap.size 24 [.slice (some ⟨b, off, none⟩) n c] ∧ Blk wr (w.heap.size + 1) 24 [.slice none 0 0] ∧ Ext w wr)
      (fun v7 _ => m - (intOf v7).toNat)
    case atStart => exact ⟨0, some ⟨B, 0, none⟩, 1, Nat.zero_le _, rfl, Lib.hid (by simp), by rw [List.take_zero]; exact hO0, hz, hBW, hB1, hB2, hEW⟩
    case round =>
      clear hO0 hz hBW hB1 hB2 hEW
      obtain ⟨k, sa, sc, hk, rfl, hno, hO, hB6, hBx, hB1, hB2, hE⟩ := hrel
      haveI := hB1.blt
      haveI := hB2.blt
      haveI := hB6.blt
      have f1 := hB1.cell? 0 rfl
      have f6 := hB6.cell? 0 rfl
      have hk0 : (0 : Int) ≤ (k : Int) := by omega
      by_cases hlt : k < m
      · have hkn : (k : Int) < (n : Int) := by omega
        have hk3 : (k : Int) < 3 := by omega
        obtain ⟨xk, hxk⟩ : ∃ x, r[k]? = some x := ⟨_, List.getElem?_eq_getElem (by omega)⟩
        have hts := take_snoc hxk
        obtain ⟨_, _, y3⟩ := v1 xk (List.mem_of_getElem? hxk)
        have hmem : xk ∈ r.take m := by
          obtain ⟨h1, h2⟩ := List.getElem?_eq_some_iff.1 hxk
          exact List.mem_take_iff_getElem.2 ⟨k, by omega, h2⟩
        obtain ⟨idk, kk⟩ := xk
        obtain ⟨b', off', gk, ck, hbe, hbk, d0, d1, hSk, hck⟩ := (hI.ext hE).at k (by omega) _ hxk
        injection hbe with hbe
        injection hbe with hbe1 hbe2
        subst hbe1 hbe2
        simp only at d0 d1 hSk hck y3
        rw [y3] at d1 hSk hck
        haveI := hbk
        obtain ⟨hIb, hsc⟩ := hO.ib
        obtain ⟨b2, off2, g2, cg2, rfl, hb2, e0, _, _, _⟩ := hIb.at 0 (by omega) (nid, K) rfl
        simp only at e0
        rw [Nat.zero_mul, Nat.add_zero] at e0
        haveI := hb2
        have hk1 : 0 < k + 1 := by omega
        by_cases hid : idk = nid
        · have he := Lib.hid (hbad.out ⟨_, hmem, hid⟩)
          have hdd : (idk == nid) = true := by simpa using hid
          clear hid
          go_wp2_with fail
          refine wp_region_vague 12 [[], [0], [], [0, 1, 2], [0, 1, 2, 3], [0, 1, 2, 3, 4], [], [6], [6, 7], [6, 7, 8], [6, 7, 8, 9], [0, 1, 2, 3, 4, 5, 6, 7, 8, 9, 10]] (by kernel_rfl) (by kernel_rfl) (by kernel_rfl) (by kernel_rfl) ?_; simp only [List.take_succ_cons, List.take_zero, List.drop_succ_cons, List.drop_zero, List.take_nil, List.drop_nil]
          (repeat (apply VD_der; (case h => (intro us w' hx hf; obtain ⟨x, rfl⟩ := hx.out; refine ⟨rfl, ?_⟩; simp [go_sem, execOp, *]; (try simp (disch := omega) only [Go.IntWalk.i64_in, Go.IntWalk.rem_in, Go.IntWalk.wrap64_in]); rfl)); (try simp only [Act.put, List.setIfInBounds_toArray, List.set_cons_succ, List.set_cons_zero])))
          (refine VD_nil ?_; intro us w' hx hf; obtain ⟨x, rfl⟩ := hx.out; (try simp only [Act.put, List.setIfInBounds_toArray, List.set_cons_succ, List.set_cons_zero, wpList_none]); (try simp only [List.mem_cons, List.not_mem_nil, or_false, forall_eq_or_imp, forall_eq, List.nil_append, List.cons_append, List.mem_append, false_or, true_and, and_true] at hf); (try simp only [Nat.reduceAdd, Nat.zero_add] at hf); (try simp only [Nat.reduceAdd, Nat.zero_add]))
          go_wp2_with (first
            | (refine wpList_store_arr (RR1) rfl _ _ rfl (w.heap.size + 1) (0) rfl ([.slice none 0 0]) rfl (24) _ ((hB2.extB (by repeat (first | (with_reducible first | exact Ext.refl _ | assumption | apply Ext.alloc | apply Ext.ext | apply Ext.drew | refine Ext.setCell ?_ ?_ _) | (focus (simp [go_sem]; done)))))) (rfl) (by simp) (by first | exact one_u8 _ | (simp; done) | (simp; (repeat' (first | rfl | constructor)))) ?_; intro w9 hB9 hM9)
            | fail)
          refine bodyPost_ret (results_arr_tmp Tryz.results16 (RR1) _ _ (w.heap.size + 1) (0) ([.slice none 0 0]) rfl (hB9.rd) (rfl) (.int .i64 7) rfl) rfl ?_
          rw [he.out]
          exact ⟨none, 0, 0, rfl, Ib.nil _ _, Nat.le_refl _, endM hE (by repeat (first | (with_reducible first | exact Ext.refl _ | assumption | apply Ext.alloc | apply Ext.ext | apply Ext.drew | refine Ext.setCell ?_ ?_ _) | (focus (simp [go_sem]; done)))) hM9 (by omega)⟩
        · have hdd : (idk == nid) = false := by simpa using hid
          have hno2 := Lib.hid (show ∀ q ∈ r.take (k + 1), q.1 ≠ nid by
            rw [hts]
            intro q hq
            rcases List.mem_append.1 hq with h | h
            · exact hno.out q h
            · rw [List.mem_singleton.1 h]; exact hid)
          clear hid
          go_wp2_with fail
          refine wp_region_vague 12 [[], [0], [], [0, 1, 2], [0, 1, 2, 3], [0, 1, 2, 3, 4], [], [6], [6, 7], [6, 7, 8], [6, 7, 8, 9], [0, 1, 2, 3, 4, 5, 6, 7, 8, 9, 10]] (by kernel_rfl) (by kernel_rfl) (by kernel_rfl) (by kernel_rfl) ?_; simp only [List.take_succ_cons, List.take_zero, List.drop_succ_cons, List.drop_zero, List.take_nil, List.drop_nil]
          (repeat (apply VD_der; (case h => (intro us w' hx hf; obtain ⟨x, rfl⟩ := hx.out; refine ⟨rfl, ?_⟩; simp [go_sem, execOp, *]; (try simp (disch := omega) only [Go.IntWalk.i64_in, Go.IntWalk.rem_in, Go.IntWalk.wrap64_in]); rfl)); (try simp only [Act.put, List.setIfInBounds_toArray, List.set_cons_succ, List.set_cons_zero])))
          (refine VD_nil ?_; intro us w' hx hf; obtain ⟨x, rfl⟩ := hx.out; (try simp only [Act.put, List.setIfInBounds_toArray, List.set_cons_succ, List.set_cons_zero, wpList_none]); (try simp only [List.mem_cons, List.not_mem_nil, or_false, forall_eq_or_imp, forall_eq, List.nil_append, List.cons_append, List.mem_append, false_or, true_and, and_true] at hf); (try simp only [Nat.reduceAdd, Nat.zero_add] at hf); (try simp only [Nat.reduceAdd, Nat.zero_add]))
          go_wp2_with fail
          refine nameW ?_
          intro W3 hW3
          have hE3 : Ext wr W3 := by rw [hW3]; exact (by repeat (first | (with_reducible first | exact Ext.refl _ | assumption | apply Ext.alloc | apply Ext.ext | apply Ext.drew | refine Ext.setCell ?_ ?_ _) | (focus (simp [go_sem]; done))))
          clear hW3
          have hO3 := hO.ext hE3
          have hB6 := hB6.extB hE3
          have hB1 := hB1.extB hE3
          have hB2 := hB2.extB hE3
          have hSk := hSk.ext hE3
          have d0 := (hE3.cell (p := ⟨b, _, none⟩) hbk.lt).trans d0
          have d1 := (hE3.cell (p := ⟨b, _, none⟩) hbk.lt).trans d1
          have hE3w := hE.trans hE3
          have hBx := Nat.le_trans hBx hE3.size
          haveI : BlkLt b W3 := ⟨Nat.lt_of_lt_of_le hbk.lt hE3.size⟩
          haveI := hB1.blt
          haveI := hB6.blt
          have f1 := hB1.cell? 0 rfl
          have f6 := hB6.cell? 0 rfl
          clear hE hE3 e0 hIb hO hdd
          refine wp_region_vague 18 [[], [0], [], [2], [], [2, 3, 4], [2, 3, 4, 5], [2, 3, 4, 5, 6], [], [8], [], [8, 9, 10], [8, 9, 10, 11], [8, 9, 10, 11, 12], [8, 9, 10, 11, 12, 13], [8, 9, 10, 11, 12, 13, 14], [2, 3, 4, 5, 6, 7, 8, 9, 10, 11, 12, 13, 14, 15], [2, 3, 4, 5, 6, 7, 8, 9, 10, 11, 12, 13, 14, 15, 16], [0, 1, 2, 3, 4, 5, 6, 7, 8, 9, 10, 11, 12, 13, 14, 15, 16, 17], [0, 1, 2, 3, 4, 5, 6, 7, 8, 9, 10, 11, 12, 13, 14, 15, 16, 17, 18], [0, 1, 2, 3, 4, 5, 6, 7, 8, 9, 10, 11, 12, 13, 14, 15, 16, 17, 18, 19]] (by kernel_rfl) (by kernel_rfl) (by kernel_rfl) (by kernel_rfl) ?_; simp only [List.take_succ_cons, List.take_zero, List.drop_succ_cons, List.drop_zero, List.take_nil, List.drop_nil]
          (repeat (apply VD_der; (case h => (intro us w' hx hf; obtain ⟨x, rfl⟩ := hx.out; refine ⟨rfl, ?_⟩; simp [go_sem, execOp, *]; (try simp (disch := omega) only [Go.IntWalk.i64_in, Go.IntWalk.rem_in, Go.IntWalk.wrap64_in]); rfl)); (try simp only [Act.put, List.setIfInBounds_toArray, List.set_cons_succ, List.set_cons_zero])))
          (refine VD_vag (fun p => .slice (p 0).1 (1) (1)) (fun p w'' => Bss w'' (p 0).1 (1) ([kk])) (fun p w w' h hx => h.ext hx) (fun us w' hx hf => ⟨rfl, ?_⟩) ?_; (unfold gives; simp [go_sem, execOp]; exact ⟨fun _ => (some ⟨w'.heap.size, 0, none⟩, 0), rfl, Ext.of_alloc _ _, bss1 (hSk.ext hx) _⟩))
          (refine VD_vag (fun p => .slice (p 0).1 (32) (p 0).2) (fun p w'' => Own w'' 0 (p 0).1 (32) (p 0).2 (kk)) (fun p w w' h hx => h.ext hx) (fun us w' hx hf => ⟨rfl, ?_⟩) ?_; (unfold gives; simp [go_sem, execOp]; exact vag_fresh (Nat.zero_le _) ((by have := join_any _ 1 1 [kk] w' (by exact (hf _ (List.mem_append_right _ (List.mem_singleton_self _)) rfl)) (by omega) 32 (by rw [joinL1]; exact y3) (by omega); rw [joinL1] at this; exact this))))
          (repeat (apply VD_der; (case h => (intro us w' hx hf; obtain ⟨x, rfl⟩ := hx.out; refine ⟨rfl, ?_⟩; simp [go_sem, execOp, *]; (try simp (disch := omega) only [Go.IntWalk.i64_in, Go.IntWalk.rem_in, Go.IntWalk.wrap64_in]); rfl)); (try simp only [Act.put, List.setIfInBounds_toArray, List.set_cons_succ, List.set_cons_zero])))
          (refine VD_vag (fun p => .slice (p 0).1 1 1) (fun p w'' => NewI 48 idk kk w'' (p 0).1) (fun p w w' h hx => by first | exact h.ext hx | exact ⟨h.1.ext hx, h.2.ext hx⟩ | exact ⟨h.1.ext hx, h.2⟩ | exact ⟨h.1.ext hx, h.2.1.ext hx, h.2.2.ext hx⟩) (fun us w' hx hf => ⟨rfl, ?_⟩) ?_; (unfold gives; simp [go_sem, execOp]; exact ⟨fun _ => (some ⟨w'.heap.size, 0, none⟩, 0), rfl, Ext.of_alloc _ _, NewI.mk (hf _ (List.mem_append_right _ (List.mem_singleton_self _)) rfl) (by decide)⟩))
          (refine VD_nil ?_; intro us w' hx hf; obtain ⟨x, rfl⟩ := hx.out; (try simp only [Act.put, List.setIfInBounds_toArray, List.set_cons_succ, List.set_cons_zero, wpList_none]); (try simp only [List.mem_cons, List.not_mem_nil, or_false, forall_eq_or_imp, forall_eq, List.nil_append, List.cons_append, List.mem_append, false_or, true_and, and_true] at hf); (try simp only [Nat.reduceAdd, Nat.zero_add] at hf); (try simp only [Nat.reduceAdd, Nat.zero_add]))
          obtain ⟨_, _, hN⟩ := hf
          obtain ⟨aN, haN⟩ : ∃ a, (us 17 0).1 = a := ⟨_, rfl⟩
          rw [haN] at hN ⊢
          clear haN
          obtain ⟨gn, ga, nn, cc, rfl, hR, hS, hcc, hIn⟩ := hN
          have hxx : Ext W3 (W3.ext x) := Ext.of_ext _ _
          have hOx := hO3.ext hxx
          have hB6x := hB6.extB hxx
          have hB2x := hB2.extB hxx
          have hB1x := hB1.extB hxx
          have hEx := hE3w.trans hxx
          have hBxx := Nat.le_trans hBx hxx.size
          clear hO3 hB6 hB2 hB1 hE3w hBx hxx f1 f6 d0 d1
          refine wpList_append_i VM rfl _ _ rfl B _ (k + 1) sc _ rfl gn 1 idk ga nn cc kk rfl hOx hR hS hcc (hIn B) (by omega) hBxx ?_
          intro sa' sc' w6 hO6 hg6 hb6
          have hB66 := hB6x.grown hg6 (hOx.blk hB6x (by decide))
          have hB26 := hB2x.grown hg6 (hOx.blk hB2x (by decide))
          have hB16 := hB1x.grown hg6 (hOx.blk hB1x (by decide))
          haveI := hB66.blt
          have q0 := hB66.cell? 0 rfl
          have q1 := hB66.free 0
          have hE6 : Ext w w6 := Below.trans hEx (hb6.mono (by omega))
          have hB6s := Nat.le_trans hBxx hb6.size
          go_wp2
          have hset := hB66.set 0 (.slice sa' (k + 1 + 1) sc')
          have hM : Mut (B + 1) w6 (w6.setCell ⟨B + 1, 0, none⟩ (.slice sa' (k + 1 + 1) sc')) := (Mut.refl _ _).setCell 0 _
          go_roundw
          case rel => exact ⟨k + 1, sa', sc', by omega, by go_num, hno2, by rw [hts, ← List.cons_append]; exact hO6.mut hB66 (by decide) (by simp) hM, hset, Nat.le_trans hB6s hM.size, Blk.turn hM hB16 (by omega), Blk.turn hM hB26 (by omega), Below.trans hE6 (hM.below (by omega) hE6.size)⟩
          case measure => simp [intOf]; omega
      · obtain rfl : k = m := by omega
        have he := Lib.hid (hgood.out hno.out)
        obtain ⟨hIb, hsc⟩ := hO.ib
        by_cases hn3 : n ≤ 3
        · have hkn : ¬ (k : Int) < (n : Int) := by have := HM.out; omega
          go_wp2_with (first
            | (refine wpList_load_arr (RR1) rfl _ rfl (B + 1) (0) rfl ([.slice sa (k + 1) sc]) (((hB6.extB (by repeat (first | (with_reducible first | exact Ext.refl _ | assumption | apply Ext.alloc | apply Ext.ext | apply Ext.drew | refine Ext.setCell ?_ ?_ _) | (focus (simp [go_sem]; done))))).rd)) (rfl) ?_)
            | (refine wpList_store_arr (RR1) rfl _ _ rfl (w.heap.size + 1) (0) rfl ([.slice sa (k + 1) sc]) rfl (24) _ ((hB2.extB (by repeat (first | (with_reducible first | exact Ext.refl _ | assumption | apply Ext.alloc | apply Ext.ext | apply Ext.drew | refine Ext.setCell ?_ ?_ _) | (focus (simp [go_sem]; done)))))) (rfl) (by simp) (by first | exact one_u8 _ | (simp; done) | (simp; (repeat' (first | rfl | constructor)))) ?_; intro w9 hB9 hM9)
            | fail)
          refine bodyPost_ret (results_arr_tmp Tryz.results16 (RR1) _ _ (w.heap.size + 1) (0) ([.slice sa (k + 1) sc]) rfl (hB9.rd) (rfl) (.int .i64 0) rfl) rfl ?_
          rw [he.out]
          exact ⟨_, _, _, rfl, (hIb.ext (by repeat (first | (with_reducible first | exact Ext.refl _ | assumption | apply Ext.alloc | apply Ext.ext | apply Ext.drew | refine Ext.setCell ?_ ?_ _) | (focus (simp [go_sem]; done))))).mut (hO.off (by omega)) (hB2.extB (by repeat (first | (with_reducible first | exact Ext.refl _ | assumption | apply Ext.alloc | apply Ext.ext | apply Ext.drew | refine Ext.setCell ?_ ?_ _) | (focus (simp [go_sem]; done))))) (by simp) hM9, hsc, endM hE (by repeat (first | (with_reducible first | exact Ext.refl _ | assumption | apply Ext.alloc | apply Ext.ext | apply Ext.drew | refine Ext.setCell ?_ ?_ _) | (focus (simp [go_sem]; done)))) hM9 (by omega)⟩
        · have hkn : (k : Int) < (n : Int) := by have := HM.out; omega
          have hk3 : ¬ (k : Int) < 3 := by have := HM.out; omega
          go_wp2_with (first
            | (refine wpList_load_arr (RR1) rfl _ rfl (B + 1) (0) rfl ([.slice sa (k + 1) sc]) (((hB6.extB (by repeat (first | (with_reducible first | exact Ext.refl _ | assumption | apply Ext.alloc | apply Ext.ext | apply Ext.drew | refine Ext.setCell ?_ ?_ _) | (focus (simp [go_sem]; done))))).rd)) (rfl) ?_)
            | (refine wpList_store_arr (RR1) rfl _ _ rfl (w.heap.size + 1) (0) rfl ([.slice sa (k + 1) sc]) rfl (24) _ ((hB2.extB (by repeat (first | (with_reducible first | exact Ext.refl _ | assumption | apply Ext.alloc | apply Ext.ext | apply Ext.drew | refine Ext.setCell ?_ ?_ _) | (focus (simp [go_sem]; done)))))) (rfl) (by simp) (by first | exact one_u8 _ | (simp; done) | (simp; (repeat' (first | rfl | constructor)))) ?_; intro w9 hB9 hM9)
            | fail)
          refine bodyPost_ret (results_arr_tmp Tryz.results16 (RR1) _ _ (w.heap.size + 1) (0) ([.slice sa (k + 1) sc]) rfl (hB9.rd) (rfl) (.int .i64 0) rfl) rfl ?_
          rw [he.out]
          exact ⟨_, _, _, rfl, (hIb.ext (by repeat (first | (with_reducible first | exact Ext.refl _ | assumption | apply Ext.alloc | apply Ext.ext | apply Ext.drew | refine Ext.setCell ?_ ?_ _) | (focus (simp [go_sem]; done))))).mut (hO.off (by omega)) (hB2.extB (by repeat (first | (with_reducible first | exact Ext.refl _ | assumption | apply Ext.alloc | apply Ext.ext | apply Ext.drew | refine Ext.setCell ?_ ?_ _) | (focus (simp [go_sem]; done))))) (by simp) hM9, hsc, endM hE (by repeat (first | (with_reducible first | exact Ext.refl _ | assumption | apply Ext.alloc | apply Ext.ext | apply Ext.drew | refine Ext.setCell ?_ ?_ _) | (focus (simp [go_sem]; done)))) hM9 (by omega)⟩
end Go.Proofs.YtbfgeokngekdmaaGreat

/- The walks of layer 19 of the document: Open. -/
namespace Go.Sec
open Go.RowKit Go.Sec.R4
theorem Own.chg {w w' : World} {S : Nat → Prop} {base n c : Nat} {a : Option Addr} {l : List UInt8} (h : Own w base a n c l) (hx : Chg S w w') (hs : ∀ k, S k → k < base) : Own w' base a n c l := by
  refine ⟨h.1, h.2.1, ?_⟩
  rcases h.2.2 with h1 | ⟨g, cap, cur, hv, hb, hh, r⟩
  · exact .inl h1
  · refine .inr ⟨g, cap, cur, hv, hb, ?_, r⟩
    rw [hx.block g (Array.getElem?_eq_some_iff.1 hh).1 (fun e => by have := hs g e; omega)]
    exact hh
theorem Rd.chg {w w' : World} {S : Nat → Prop} {b o : Nat} {vs : List Value} (h : Rd w (some ⟨b, o, none⟩) vs) (hx : Chg S w w') (hs : ¬ S b) : Rd w' (some ⟨b, o, none⟩) vs := by
  rcases h with h | ⟨b', o', ha, hb, hc⟩
  · exact .inl h
  · injection ha with ha
    injection ha with e1 e2
    subst e1 e2
    exact .inr ⟨b, o, rfl, Nat.lt_of_lt_of_le hb hx.size, fun k v hk => (World.cell?_of_block (hx.block b hb hs)).trans (hc k v hk)⟩
theorem bss_of_rd {w : World} {b : Nat} {a1 : Option Addr} {n1 c1 : Nat} {l : List UInt8} (h : Rd w (some ⟨b, 0, none⟩) [.slice a1 n1 c1]) (hS : Sl w a1 n1 l) : Bss w (some ⟨b, 0, none⟩) 1 [l] := by
  refine ⟨rfl, .inr ?_⟩
  rcases h with h | ⟨b', o', ha, hb, hc⟩
  · cases h
  · injection ha with ha
    injection ha with e1 e2
    subst e1 e2
    refine ⟨b, 0, rfl, hb, fun k hk => ?_⟩
    obtain rfl : k = 0 := by simp at hk; omega
    exact ⟨a1, n1, c1, hc 0 _ rfl, hS⟩
end Go.Sec
namespace Go.Proofs.YtbfgeokngekdmaaGreat
open Go.RowKit Go.Sec Go.Oct Go.Sha Go.Aes Go.Cook Go.Chan BigFrame

theorem two_eq {pl : List UInt8} (h : 4 ≤ pl.length) : (pl.drop 2).take 2 = [pl.getD 2 0, pl.getD 3 0] := by
  match pl, h with
  | a :: b :: c :: d :: r, _ => rfl

theorem n8_ne {x : UInt8} (h : x ≠ 0) : (n8 x != 0) = true := by
  rw [bne_iff_ne]
  intro h0
  apply h
  have : n8 x = n8 0 := h0
  unfold Go.Sec.n8 at this
  exact UInt8.toNat_inj.1 (by omega)
set_option maxRecDepth 100000 in
set_option maxHeartbeats 8000000 in
theorem rcopen_any (a b : Option Addr) (n c nk ck : Nat) (r : Ring) (l : List UInt8) (w : World) (hI : Ib w a n r) (hnc : n ≤ c) (hn : n ≤ 1000000) (hb : Sl w b nk l) (hck : nk ≤ ck) :
    Calls Tryz.prog 11 #[.agg #[.slice a n c], .slice b nk ck] w (OpenP (openR r l) w) := by
  have hval := fun W h => rckvalid_any a n c r W h hnc hn
  have hid := fun W h => rcid_any b nk ck l W h hck
  have hrl := hI.len
  have hll := hb.len
  cases hV : validR r
  · have e : openR r l = ⟨0, [], [], 0, 3⟩ := by unfold openR; rw [if_pos (.inl hV)]
    rw [e]
    rw [hV] at hval
    clear hll e
    go_enter Tryz.func11, Tryz.ntmps11
    go_wp2_with (first
      | (go_at_call 17; refine (hval _ (hI.ext (by repeat (first | (with_reducible first | exact Ext.refl _ | assumption | apply Ext.alloc | apply Ext.ext | apply Ext.drew | refine Ext.setCell ?_ ?_ _) | (focus (simp [go_sem]; done)))))).mono ?_; rintro e w1 ⟨rfl, hxq⟩; obtain ⟨xq, rfl⟩ := hxq.out; clear hxq)
      | fail)
    refine bodyPost_ret (v := .tuple #[.int .i64 0, .agg #[.slice none 0 0, .slice none 0 0], .int .i64 0, .int .i64 3]) (by simp [results, Tryz.results11, go_sem]) rfl ?_
    exact OpenP.err _ _ _ (by repeat (first | (with_reducible first | exact Ext.refl _ | assumption | apply Ext.alloc | apply Ext.ext | apply Ext.drew | refine Ext.setCell ?_ ?_ _) | (focus (simp [go_sem]; done))))
  · rw [hV] at hval
    by_cases n104 : nk = 104
    · subst n104
      have hide : idE l = (idOf l, 0) := by unfold idE; rw [if_neg (by omega)]
      rw [hide] at hid
      obtain ⟨v1, v2, v3, v4⟩ := validR_iff.1 hV
      have hg := Lib.hid (show ∀ i, ageOf r l = some i → openR r l = if (innerE r i l).2 ≠ 0 ∨ ((innerE r i l).1.drop 2).take 2 ≠ [0, 0] then ⟨0, [], [], 0, 6⟩ else ⟨n64 (getL ((innerE r i l).1.take 2)), ((innerE r i l).1.drop 4).take 32, ((innerE r i l).1.drop 36).take 32, i, 0⟩ from fun i hA => by
        unfold openR; rw [if_neg (by rw [hV]; simp; omega), hA])
      have hgo := Lib.hid (show ageOf r l = none → openR r l = ⟨0, [], [], 0, 5⟩ from fun hA => by unfold openR; rw [if_neg (by rw [hV]; simp; omega), hA])
      clear hide
      go_enter Tryz.func11, Tryz.ntmps11
      go_wp2_with (first
        | (go_at_call 17; refine (hval _ (hI.ext (by repeat (first | (with_reducible first | exact Ext.refl _ | assumption | apply Ext.alloc | apply Ext.ext | apply Ext.drew | refine Ext.setCell ?_ ?_ _) | (focus (simp [go_sem]; done)))))).mono ?_; rintro e w1 ⟨rfl, hxq⟩; obtain ⟨xq, rfl⟩ := hxq.out; clear hxq)
        | (go_at_call 29; refine (hid _ (hb.ext (by repeat (first | (with_reducible first | exact Ext.refl _ | assumption | apply Ext.alloc | apply Ext.ext | apply Ext.drew | refine Ext.setCell ?_ ?_ _) | (focus (simp [go_sem]; done)))))).mono ?_; rintro e w1 ⟨rfl, hxq⟩; obtain ⟨xq, rfl⟩ := hxq.out; clear hxq)
        | fail)
      refine nameW ?_
      intro W hW
      have hEW : Ext w W := by rw [hW]; exact (by repeat (first | (with_reducible first | exact Ext.refl _ | assumption | apply Ext.alloc | apply Ext.ext | apply Ext.drew | refine Ext.setCell ?_ ?_ _) | (focus (simp [go_sem]; done))))
      have hB1 : Blk W w.heap.size 24 [.slice a n c] := by rw [hW]; exact (by repeat (first | assumption | (refine Blk.newAt _ _ _ _ ?_; first | rfl | (simp only [World.size_alloc]; done)) | apply Blk.ext | apply Blk.alloc | (refine Blk.other ?_ ?_ _; rotate_left; (simp <;> omega))))
      have hB2 : Blk W (w.heap.size + 1) 32 [.slice none 0 0, .slice none 0 0] := by rw [hW]; exact (by repeat (first | assumption | (refine Blk.newAt _ _ _ _ ?_; first | rfl | (simp only [World.size_alloc]; done)) | apply Blk.ext | apply Blk.alloc | (refine Blk.other ?_ ?_ _; rotate_left; (simp <;> omega))))
      clear hW hval hid
      go_loopw [10, 11, 12] (fun v10 _ _ wr => ∃ k : Nat, k ≤ n ∧ v10 = .int .i64 k ∧ Hid (∀ m ∈ r.take k, m.1 ≠ idOf l) ∧ Blk wr w.heap.size 24 [.slice a n c] ∧ Blk wr (w.heap.size + 1) 32 [.slice none 0 0, .slice none 0 0] ∧ Ext w wr) (fun v10 _ _ _ => n - (intOf v10).toNat)
      case atStart => exact ⟨0, Nat.zero_le _, rfl, Lib.hid (by simp), hB1, hB2, hEW⟩
      case round =>
        clear hB1 hB2 hEW
        obtain ⟨k, hk, rfl, hno, hB1, hB2, hE⟩ := hrel
        have hlt2 := hB2.lt
        haveI := hB1.blt
        haveI := hB2.blt
        have f1 := hB1.cell? 0 rfl
        have hk0 : (0 : Int) ≤ (k : Int) := by omega
        by_cases hlt : k < n
        · have hkn : (k : Int) < (n : Int) := by omega
          obtain ⟨x, hx⟩ : ∃ x, r[k]? = some x := ⟨_, List.getElem?_eq_getElem (by omega)⟩
          have hts := take_snoc hx
          have hat := Lib.hid (fun h => ageI_at hx hno.out h)
          obtain ⟨_, _, x3⟩ := v1 x (List.mem_of_getElem? hx)
          obtain ⟨id, ky⟩ := x
          obtain ⟨b', off', gk, cgk, rfl, hbk, d0, d1, hSk, hckk⟩ := (hI.ext hE).at k (by omega) _ hx
          simp only at d0 d1 hSk hckk x3
          rw [x3] at d1 hSk hckk
          haveI := hbk
          by_cases hid : id = idOf l
          · have hg2 := hg.out k (hat.out hid)
            have hinn : innerE r k l = openE ky [l.take 4, (l.drop 4).take 16] (l.drop 20) := by unfold innerE; rw [List.getD_eq_getElem?_getD, hx]; rfl
            have hope := fun bA cA aS cS W h1 h2 h3 h4 => ropen_any gk bA aS 32 cgk 2 cA 84 cS ky [l.take 4, (l.drop 4).take 16] (l.drop 20) W h1 hckk h2 (by omega) h3 h4 (by omega)
            have hlen := openE_len (ky := ky) (A := [l.take 4, (l.drop 4).take 16]) (s := l.drop 20)
            rw [← hinn] at hope hlen
            have hd84 : (l.drop 20).length = 84 := by rw [List.length_drop]; omega
            rw [hd84] at hlen
            obtain ⟨⟨pl, er⟩, hpe⟩ : ∃ q, innerE r k l = q := ⟨_, rfl⟩
            rw [hpe] at hope hlen hg2
            simp only at hope hlen hg2
            have HR := Lib.hid hg2
            have hne : (id != idOf l) = false := by rw [bne_eq_false_iff_eq]; exact hid
            have hbr := hb.ext hE
            have s1 := hbr.take 4 (by omega)
            have s2 := (hbr.drop ck 4 hck).take 16 (by omega)
            have s3 := hbr.drop ck 20 hck
            have k1 : (4 : Int) ≤ (ck : Int) := by omega
            have k2 : (20 : Int) ≤ (ck : Int) := by omega
            have k3 : (104 : Int) ≤ (ck : Int) := by omega
            have k4 : 4 ≤ ck := by omega
            have k5 : 20 ≤ ck := by omega
            clear hg2 hpe hinn hid hat hts hg hgo hll
            go_wp2_with fail
            refine wp_region_vague 19 [[], [0], [], [0, 1, 2], [0, 1, 2, 3], [0, 1, 2, 3, 4], [], [6], [], [8], [6, 7, 8, 9], [], [11], [0, 1, 2, 3, 4, 5, 6, 7, 8, 9, 10, 11, 12], [0, 1, 2, 3, 4, 5, 6, 7, 8, 9, 10, 11, 12, 13], [0, 1, 2, 3, 4, 5, 6, 7, 8, 9, 10, 11, 12, 13, 14], [0, 1, 2, 3, 4, 5, 6, 7, 8, 9, 10, 11, 12, 13, 14], [0, 1, 2, 3, 4, 5, 6, 7, 8, 9, 10, 11, 12, 13, 14, 15], [0, 1, 2, 3, 4, 5, 6, 7, 8, 9, 10, 11, 12, 13, 14, 15, 16, 17]] (by kernel_rfl) (by kernel_rfl) (by kernel_rfl) (by kernel_rfl) ?_; simp only [List.take_succ_cons, List.take_zero, List.drop_succ_cons, List.drop_zero, List.take_nil, List.drop_nil]
            (repeat (apply VD_der; (case h => (intro us w' hx hf; obtain ⟨x, rfl⟩ := hx.out; refine ⟨rfl, ?_⟩; simp [go_sem, execOp, *]; (try simp (disch := omega) only [Go.IntWalk.i64_in, Go.IntWalk.rem_in, Go.IntWalk.wrap64_in]); rfl)); (try simp only [Act.put, List.setIfInBounds_toArray, List.set_cons_succ, List.set_cons_zero])))
            (refine VD_vag (fun p => .slice (p 0).1 2 2) (fun p w'' => Bsc w'' (p 0).1 2 [l.take 4, (l.drop 4).take 16]) (fun p w w' h hx => by first | exact h.ext hx | exact ⟨h.1.ext hx, h.2.ext hx⟩ | exact ⟨h.1.ext hx, h.2⟩ | exact ⟨h.1.ext hx, h.2.1.ext hx, h.2.2.ext hx⟩) (fun us w' hx hf => ⟨rfl, ?_⟩) ?_; (unfold gives; simp [go_sem, execOp]; exact ⟨fun _ => (some ⟨w'.heap.size, 0, none⟩, 0), rfl, Ext.of_alloc _ _, bsc2 (s1.ext hx) (by omega) (s2.ext hx) (by omega) _⟩))
            (repeat (apply VD_der; (case h => (intro us w' hx hf; obtain ⟨x, rfl⟩ := hx.out; refine ⟨rfl, ?_⟩; simp [go_sem, execOp, *]; (try simp (disch := omega) only [Go.IntWalk.i64_in, Go.IntWalk.rem_in, Go.IntWalk.wrap64_in]); rfl)); (try simp only [Act.put, List.setIfInBounds_toArray, List.set_cons_succ, List.set_cons_zero])))
            (refine VD_vag (fun p => .tuple #[.slice (p 0).1 (pl.length) (p 0).2, .int .i64 er]) (fun p w'' => Sl w'' (p 0).1 (pl.length) (pl) ∧ (pl.length) ≤ (p 0).2) (fun p w w' h hx => ⟨h.1.ext hx, h.2⟩) (fun us w' hx hf => ⟨rfl, ?_⟩) ?_; (unfold gives; simp [go_sem, execOp]; exact vag_read (hope _ _ _ _ _ (hSk.ext hx) (hf _ (List.mem_append_right _ (List.mem_singleton_self _)) rfl) (s3.ext hx) (by omega))))
            (repeat (apply VD_der; (case h => (intro us w' hx hf; obtain ⟨x, rfl⟩ := hx.out; refine ⟨rfl, ?_⟩; simp [go_sem, execOp, *]; (try simp (disch := omega) only [Go.IntWalk.i64_in, Go.IntWalk.rem_in, Go.IntWalk.wrap64_in]); rfl)); (try simp only [Act.put, List.setIfInBounds_toArray, List.set_cons_succ, List.set_cons_zero])))
            (refine VD_nil ?_; intro us w' hx hf; obtain ⟨x, rfl⟩ := hx.out; (try simp only [Act.put, List.setIfInBounds_toArray, List.set_cons_succ, List.set_cons_zero, wpList_none]); (try simp only [List.mem_cons, List.not_mem_nil, or_false, forall_eq_or_imp, forall_eq, List.nil_append, List.cons_append, List.mem_append, false_or, true_and, and_true] at hf); (try simp only [Nat.reduceAdd, Nat.zero_add] at hf); (try simp only [Nat.reduceAdd, Nat.zero_add]))
            obtain ⟨_, hSp, hcp⟩ := hf
            obtain ⟨ap, hap⟩ : ∃ a, (us 13 0).1 = a := ⟨_, rfl⟩
            obtain ⟨cp, hcpe⟩ : ∃ a, (us 13 0).2 = a := ⟨_, rfl⟩
            rw [hap] at hSp ⊢
            rw [hcpe] at hcp ⊢
            clear hap hcpe
            obtain ⟨W, hW⟩ : ∃ W, W = wr.ext x := ⟨_, rfl⟩
            rw [← hW] at hSp ⊢
            have hxW : Ext wr W := by rw [hW]; exact Ext.of_ext _ _
            clear hW
            have hE := hE.trans hxW
            have hB2 := hB2.extB hxW
            clear hB1 s1 s2 s3 d0 d1 hSk f1 hope hbr
            haveI := hB2.blt
            by_cases her : er = 0
            · subst her
              have hpl : pl.length = 68 := by rw [hlen rfl]
              rw [hpl] at hSp hcp ⊢
              have h2e := two_eq (pl := pl) (by omega)
              rw [h2e] at HR
              obtain ⟨pb, po, rfl, hpb, hq2⟩ := hSp.atD 2 (by omega)
              obtain ⟨pb2, po2, hpe2, _, hq3⟩ := hSp.atD 3 (by omega)
              injection hpe2 with hpe2
              injection hpe2 with hpe3 hpe4
              subst hpe3 hpe4
              haveI := hpb
              by_cases z2 : pl.getD 2 0 = 0
              · by_cases z3 : pl.getD 3 0 = 0
                · have HR2 := Lib.hid (show openR r l = ⟨n64 (getL (pl.take 2)), (pl.drop 4).take 32, (pl.drop 36).take 32, k, 0⟩ by rw [HR.out, if_neg (by rw [z2, z3]; simp)])
                  rw [z2] at hq2
                  rw [z3] at hq3
                  have n0 : (n8 0 != 0) = false := by decide
                  clear HR h2e z2 z3
                  go_wp2_with fail
                  obtain ⟨gq, hgq⟩ : ∃ q, getL (pl.take 2) = q := ⟨_, rfl⟩
                  have hb02 := getL_lt4 (pl.take 2) (by rw [List.length_take]; omega)
                  have hg02 := fun V H => rget_any (some ⟨pb, po, none⟩) 2 cp (pl.take 2) V H (by omega)
                  rw [hgq] at hb02 hg02
                  have hwr : IntKind.i64.wrap (n64 gq) = n64 gq := by rw [IntKind.wrap_i64]; omega
                  have s02 := hSp.take 2 (by omega)
                  have s04 := (sl_from hSp hcp (show 4 < 68 by omega)).take 32 (by omega)
                  have s36 := (sl_from hSp hcp (show 36 < 68 by omega)).take 32 (by omega)
                  obtain ⟨U4, hU4⟩ : ∃ u, (pl.drop 4).take 32 = u := ⟨_, rfl⟩
                  obtain ⟨U36, hU36⟩ : ∃ u, (pl.drop 36).take 32 = u := ⟨_, rfl⟩
                  rw [hU4] at s04
                  rw [hU36] at s36
                  have l4 := s04.len
                  have l36 := s36.len
                  have j1 : (2 : Int) ≤ (cp : Int) := by omega
                  have j2 : (4 : Int) ≤ (cp : Int) := by omega
                  have j3 : (36 : Int) ≤ (cp : Int) := by omega
                  have j4 : (68 : Int) ≤ (cp : Int) := by omega
                  have j5 : 4 < cp := by omega
                  have j6 : 36 < cp := by omega
                  have hWg : w.heap.size + 1 < W.heap.size := hB2.lt
                  clear hq2 hq3
                  have n4 : ¬ cp = 4 := by omega
                  have n36 : ¬ cp = 36 := by omega
                  refine R4.wp_region_vague 16 [[], [0], [0, 1], [0, 1, 2], [], [4], [4, 5], [0, 1, 2, 4, 5, 6], [], [8], [8, 9], [0, 1, 2, 4, 5, 6, 7, 8, 9, 10], [0, 1, 2, 4, 5, 6, 7, 8, 9, 10, 11], [], [0, 1, 2, 3, 4, 5, 6, 7, 8, 9, 10, 11], [0, 1, 2, 3, 4, 5, 6, 7, 8, 9, 10, 11, 12, 14], [0, 1, 2, 3, 4, 5, 6, 7, 8, 9, 10, 11, 12, 13, 14, 15], [0, 1, 2, 3, 4, 5, 6, 7, 8, 9, 10, 11, 12, 13, 14, 15, 16]] ([w.heap.size + 1]) (by kernel_rfl) (by kernel_rfl) (by kernel_rfl) (by kernel_rfl) ?_; simp only [List.take_succ_cons, List.take_zero, List.drop_succ_cons, List.drop_zero, List.take_nil, List.drop_nil]
                  (repeat (apply R4.VD_der; (case h => (intro us w' hx hf; refine ⟨rfl, ?_⟩; simp [go_sem, execOp, *]; (try simp (disch := omega) only [Go.IntWalk.i64_in, Go.IntWalk.rem_in, Go.IntWalk.wrap64_in]); rfl)); (try simp only [Act.put, List.setIfInBounds_toArray, List.set_cons_succ, List.set_cons_zero])))
                  (refine R4.VD_vag (fun _ => .int .u64 (n64 gq)) (fun _ _ => True) ⟨(fun _ h => by cases h), fun _ _ _ _ _ => trivial⟩ (fun us w' hx hf => ⟨rfl, ?_⟩) ?_; (unfold gives; simp [go_sem, execOp]; refine (hg02 _ (Sl.mut s02 hB2 (by simp) hx.mut)).mono ?_; rintro e w1 ⟨rfl, hx1⟩; first | exact ⟨rfl, hx1⟩ | simpa using hx1))
                  (repeat (apply R4.VD_der; (case h => (intro us w' hx hf; refine ⟨rfl, ?_⟩; simp [go_sem, execOp, *]; (try simp (disch := omega) only [Go.IntWalk.i64_in, Go.IntWalk.rem_in, Go.IntWalk.wrap64_in]); rfl)); (try simp only [Act.put, List.setIfInBounds_toArray, List.set_cons_succ, List.set_cons_zero])))
                  (refine R4.VD_vag (fun p => .slice (p 0).1 1 1) (fun p w'' => ∃ b, (p 0).1 = some ⟨b, 0, none⟩ ∧ w.heap.size + 1 < b ∧ Rd w'' (some ⟨b, 0, none⟩) [.slice (some ⟨pb, po + 4, none⟩) 32 (cp - 4)]) ⟨(fun _ h => by cases h), fun p w1 w2 ⟨b, h1, h2, h3⟩ hx => ⟨b, h1, h2, h3.chg hx (fun hn => by have := hn.1; simp at this; omega)⟩⟩ (fun us w' hx hf => ⟨rfl, ?_⟩) ?_; (unfold gives; simp [go_sem, execOp, n4, n36]; have hsz := hx.size; exact ⟨fun _ => (some ⟨w'.heap.size, 0, none⟩, 0), rfl, Ext.of_alloc _ _, w'.heap.size, rfl, by omega, (Blk.new w' #[.slice (some ⟨pb, po + 4, none⟩) 32 (cp - 4)] _).rd⟩))
                  (refine R4.VD_vag (fun p => .slice (p 0).1 32 (p 0).2) (fun p w'' => Own w'' (w.heap.size + 2) (p 0).1 32 (p 0).2 U4) ⟨(fun _ h => by cases h), fun p w1 w2 h hx => h.chg hx (fun q hq => by have := hq.1; simp at this; omega)⟩ (fun us w' hx hf => ⟨rfl, ?_⟩) ?_; (unfold gives; simp [go_sem, execOp]; obtain ⟨bq, e1, e2, e3⟩ := (hf _ (List.mem_append_right _ (List.mem_singleton_self _)) rfl); rw [e1]; have hsz := hx.size; have := join_any (some ⟨bq, 0, none⟩) 1 1 [U4] w' (bss_of_rd e3 (Sl.mut s04 hB2 (by simp) hx.mut)) (by omega) 32 (by rw [joinL1]; exact l4) (by omega); rw [joinL1] at this; exact vag_fresh (by omega) this))
                  (repeat (apply R4.VD_der; (case h => (intro us w' hx hf; refine ⟨rfl, ?_⟩; simp [go_sem, execOp, *]; (try simp (disch := omega) only [Go.IntWalk.i64_in, Go.IntWalk.rem_in, Go.IntWalk.wrap64_in]); rfl)); (try simp only [Act.put, List.setIfInBounds_toArray, List.set_cons_succ, List.set_cons_zero])))
                  (refine R4.VD_vag (fun p => .slice (p 0).1 1 1) (fun p w'' => ∃ b, (p 0).1 = some ⟨b, 0, none⟩ ∧ w.heap.size + 1 < b ∧ Rd w'' (some ⟨b, 0, none⟩) [.slice (some ⟨pb, po + 36, none⟩) 32 (cp - 36)]) ⟨(fun _ h => by cases h), fun p w1 w2 ⟨b, h1, h2, h3⟩ hx => ⟨b, h1, h2, h3.chg hx (fun hn => by have := hn.1; simp at this; omega)⟩⟩ (fun us w' hx hf => ⟨rfl, ?_⟩) ?_; (unfold gives; simp [go_sem, execOp, n4, n36]; have hsz := hx.size; exact ⟨fun _ => (some ⟨w'.heap.size, 0, none⟩, 0), rfl, Ext.of_alloc _ _, w'.heap.size, rfl, by omega, (Blk.new w' #[.slice (some ⟨pb, po + 36, none⟩) 32 (cp - 36)] _).rd⟩))
                  (refine R4.VD_vag (fun p => .slice (p 0).1 32 (p 0).2) (fun p w'' => Own w'' (w.heap.size + 2) (p 0).1 32 (p 0).2 U36) ⟨(fun _ h => by cases h), fun p w1 w2 h hx => h.chg hx (fun q hq => by have := hq.1; simp at this; omega)⟩ (fun us w' hx hf => ⟨rfl, ?_⟩) ?_; (unfold gives; simp [go_sem, execOp]; obtain ⟨bq, e1, e2, e3⟩ := (hf _ (List.mem_append_right _ (List.mem_singleton_self _)) rfl); rw [e1]; have hsz := hx.size; have := join_any (some ⟨bq, 0, none⟩) 1 1 [U36] w' (bss_of_rd e3 (Sl.mut s36 hB2 (by simp) hx.mut)) (by omega) 32 (by rw [joinL1]; exact l36) (by omega); rw [joinL1] at this; exact vag_fresh (by omega) this))
                  (repeat (apply R4.VD_der; (case h => (intro us w' hx hf; refine ⟨rfl, ?_⟩; simp [go_sem, execOp, *]; (try simp (disch := omega) only [Go.IntWalk.i64_in, Go.IntWalk.rem_in, Go.IntWalk.wrap64_in]); rfl)); (try simp only [Act.put, List.setIfInBounds_toArray, List.set_cons_succ, List.set_cons_zero])))
                  (refine R4.VD_store RP2 rfl _ _ rfl rfl (w.heap.size + 1) 0 (by simp) (by simp) 32 _ hB2 (by simp) (fun p => [.slice (p 0).1 32 (p 0).2, .slice (p 1).1 32 (p 1).2]) (fun p => ⟨rfl, by simp; repeat' (first | rfl | constructor)⟩) (fun p w' => Own w' (w.heap.size + 2) (p 0).1 32 (p 0).2 U4 ∧ Own w' (w.heap.size + 2) (p 1).1 32 (p 1).2 U36) (fun p w1 w2 h hx => ⟨h.1.chg hx (fun q hq => by simp at hq; omega), h.2.chg hx (fun q hq => by simp at hq; omega)⟩) (fun us w' hx hf => ⟨rfl, (fun j => if j = 0 then us 7 0 else us 11 0), rfl, (hf _ (List.mem_append_left _ (List.mem_append_left _ (List.mem_append_right _ (List.mem_singleton_self _)))) rfl), (hf _ (List.mem_append_right _ (List.mem_singleton_self _)) rfl)⟩) ?_)
                  (refine R4.VD_nil ?_; intro us w' hx hf hd; (try simp only [Act.put, List.setIfInBounds_toArray, List.set_cons_succ, List.set_cons_zero, wpList_none]); (try simp only [List.mem_cons, List.not_mem_nil, or_false, forall_eq_or_imp, forall_eq, List.nil_append, List.cons_append, List.mem_append, false_or, true_and, and_true] at hf); (try simp only [Nat.reduceAdd, Nat.zero_add] at hf); (try simp only [Nat.reduceAdd, Nat.zero_add]))
                  obtain ⟨_, _, _, _, hBk, hU, hD⟩ := hf
                  have hBk : Blk w' (w.heap.size + 1) 32 [.slice (us 15 0).1 32 (us 15 0).2, .slice (us 15 1).1 32 (us 15 1).2] := hBk
                  have hEE : Ext w w' := Below.trans hE (hx.mut.below (by omega) hE.size)
                  go_wp2_with fail
                  refine bodyPost_ret (results_tctt Tryz.results11 RP2 _ _ (w.heap.size + 1) 0 [.slice (us 15 0).1 32 (us 15 0).2, .slice (us 15 1).1 32 (us 15 1).2] rfl hBk.rd rfl _ _ _ rfl rfl rfl) rfl ?_
                  rw [HR2.out, hgq, hU4, hU36]
                  exact ⟨_, _, _, _, _, _, (by first | rfl | (rw [hwr]; rfl) | (simp only [hwr]; rfl)), hU.sl, hU.le.1, hD.sl, hD.le.1, hEE⟩
                · have n2 : (n8 (pl.getD 2 0) != 0) = false := by rw [z2]; decide
                  have n3 : (n8 (pl.getD 3 0) != 0) = true := n8_ne z3
                  generalize n8 (pl.getD 2 0) = q2 at *
                  generalize n8 (pl.getD 3 0) = q3 at *
                  go_wp2_with (first
                    | (refine wpList_store_arr (RP2) rfl _ _ rfl (w.heap.size + 1) (0) rfl ([.slice none 0 0, .slice none 0 0]) rfl (32) _ ((hB2.extB (by repeat (first | (with_reducible first | exact Ext.refl _ | assumption | apply Ext.alloc | apply Ext.ext | apply Ext.drew | refine Ext.setCell ?_ ?_ _) | (focus (simp [go_sem]; done)))))) (rfl) (by simp) (by first | exact one_u8 _ | (simp; done) | (simp; (repeat' (first | rfl | constructor)))) ?_; intro w9 hB9 hM9)
                    | fail)
                  refine bodyPost_ret (results_tctt Tryz.results11 RP2 _ _ (w.heap.size + 1) 0 [.slice none 0 0, .slice none 0 0] rfl hB9.rd rfl _ _ _ rfl rfl rfl) rfl ?_
                  rw [HR.out, if_pos (.inr (by intro h; injection h with _ h; injection h with h; exact z3 h))]
                  exact OpenP.err _ _ _ (endM hE (by repeat (first | (with_reducible first | exact Ext.refl _ | assumption | apply Ext.alloc | apply Ext.ext | apply Ext.drew | refine Ext.setCell ?_ ?_ _) | (focus (simp [go_sem]; done)))) hM9 (by omega))
              · have n2 : (n8 (pl.getD 2 0) != 0) = true := n8_ne z2
                generalize n8 (pl.getD 2 0) = q2 at *
                go_wp2_with (first
                  | (refine wpList_store_arr (RP2) rfl _ _ rfl (w.heap.size + 1) (0) rfl ([.slice none 0 0, .slice none 0 0]) rfl (32) _ ((hB2.extB (by repeat (first | (with_reducible first | exact Ext.refl _ | assumption | apply Ext.alloc | apply Ext.ext | apply Ext.drew | refine Ext.setCell ?_ ?_ _) | (focus (simp [go_sem]; done)))))) (rfl) (by simp) (by first | exact one_u8 _ | (simp; done) | (simp; (repeat' (first | rfl | constructor)))) ?_; intro w9 hB9 hM9)
                  | fail)
                refine bodyPost_ret (results_tctt Tryz.results11 RP2 _ _ (w.heap.size + 1) 0 [.slice none 0 0, .slice none 0 0] rfl hB9.rd rfl _ _ _ rfl rfl rfl) rfl ?_
                rw [HR.out, if_pos (.inr (by intro h; injection h with h; exact z2 h))]
                exact OpenP.err _ _ _ (endM hE (by repeat (first | (with_reducible first | exact Ext.refl _ | assumption | apply Ext.alloc | apply Ext.ext | apply Ext.drew | refine Ext.setCell ?_ ?_ _) | (focus (simp [go_sem]; done)))) hM9 (by omega))
            · have her' := ne0 her
              go_wp2_with (first
                | (refine wpList_store_arr (RP2) rfl _ _ rfl (w.heap.size + 1) (0) rfl ([.slice none 0 0, .slice none 0 0]) rfl (32) _ ((hB2.extB (by repeat (first | (with_reducible first | exact Ext.refl _ | assumption | apply Ext.alloc | apply Ext.ext | apply Ext.drew | refine Ext.setCell ?_ ?_ _) | (focus (simp [go_sem]; done)))))) (rfl) (by simp) (by first | exact one_u8 _ | (simp; done) | (simp; (repeat' (first | rfl | constructor)))) ?_; intro w9 hB9 hM9)
                | fail)
              refine bodyPost_ret (results_tctt Tryz.results11 RP2 _ _ (w.heap.size + 1) 0 [.slice none 0 0, .slice none 0 0] rfl hB9.rd rfl _ _ _ rfl rfl rfl) rfl ?_
              rw [HR.out, if_pos (.inl her)]
              exact OpenP.err _ _ _ (endM hE (by repeat (first | (with_reducible first | exact Ext.refl _ | assumption | apply Ext.alloc | apply Ext.ext | apply Ext.drew | refine Ext.setCell ?_ ?_ _) | (focus (simp [go_sem]; done)))) hM9 (by omega))
          · have hne : (id != idOf l) = true := by rw [bne_iff_ne]; exact hid
            have hno2 := Lib.hid (show ∀ q ∈ r.take (k + 1), q.1 ≠ idOf l by
              rw [hts]
              intro q hq
              rcases List.mem_append.1 hq with h | h
              · exact hno.out q h
              · rw [List.mem_singleton.1 h]; exact hid)
            clear hid hts hat
            go_wp2_with fail
            go_roundw
            case rel => exact ⟨k + 1, by omega, by go_num, hno2, hB1, hB2, hE⟩
            case measure => simp [intOf]; omega
        · obtain rfl : k = n := by omega
          have hkn : ¬ (k : Int) < (k : Int) := by omega
          have he := Lib.hid (hgo.out (ageI_no (by have := hno.out; rwa [List.take_of_length_le (by omega)] at this)))
          go_wp2_with (first
            | (refine wpList_store_arr (RP2) rfl _ _ rfl (w.heap.size + 1) (0) rfl ([.slice none 0 0, .slice none 0 0]) rfl (32) _ ((hB2.extB (by repeat (first | (with_reducible first | exact Ext.refl _ | assumption | apply Ext.alloc | apply Ext.ext | apply Ext.drew | refine Ext.setCell ?_ ?_ _) | (focus (simp [go_sem]; done)))))) (rfl) (by simp) (by first | exact one_u8 _ | (simp; done) | (simp; (repeat' (first | rfl | constructor)))) ?_; intro w9 hB9 hM9)
            | fail)
          refine bodyPost_ret (results_tctt Tryz.results11 RP2 _ _ (w.heap.size + 1) 0 [.slice none 0 0, .slice none 0 0] rfl hB9.rd rfl _ _ _ rfl rfl rfl) rfl ?_
          rw [he.out]
          exact OpenP.err _ _ _ (endM hE (by repeat (first | (with_reducible first | exact Ext.refl _ | assumption | apply Ext.alloc | apply Ext.ext | apply Ext.drew | refine Ext.setCell ?_ ?_ _) | (focus (simp [go_sem]; done)))) hM9 (by omega))
    · have e : openR r l = ⟨0, [], [], 0, 3⟩ := by unfold openR; rw [if_pos (.inr (by omega))]
      have e2 : idE l = (0, 3) := by unfold idE; rw [if_pos (by omega)]
      rw [e]
      rw [e2] at hid
      clear hll e n104 e2
      go_enter Tryz.func11, Tryz.ntmps11
      go_wp2_with (first
        | (go_at_call 17; refine (hval _ (hI.ext (by repeat (first | (with_reducible first | exact Ext.refl _ | assumption | apply Ext.alloc | apply Ext.ext | apply Ext.drew | refine Ext.setCell ?_ ?_ _) | (focus (simp [go_sem]; done)))))).mono ?_; rintro e w1 ⟨rfl, hxq⟩; obtain ⟨xq, rfl⟩ := hxq.out; clear hxq)
        | (go_at_call 29; refine (hid _ (hb.ext (by repeat (first | (with_reducible first | exact Ext.refl _ | assumption | apply Ext.alloc | apply Ext.ext | apply Ext.drew | refine Ext.setCell ?_ ?_ _) | (focus (simp [go_sem]; done)))))).mono ?_; rintro e w1 ⟨rfl, hxq⟩; obtain ⟨xq, rfl⟩ := hxq.out; clear hxq)
        | fail)
      refine bodyPost_ret (v := .tuple #[.int .i64 0, .agg #[.slice none 0 0, .slice none 0 0], .int .i64 0, .int .i64 3]) (by simp [results, Tryz.results11, go_sem]) rfl ?_
      exact OpenP.err _ _ _ (by repeat (first | (with_reducible first | exact Ext.refl _ | assumption | apply Ext.alloc | apply Ext.ext | apply Ext.drew | refine Ext.setCell ?_ ?_ _) | (focus (simp [go_sem]; done))))
end Go.Proofs.YtbfgeokngekdmaaGreat

/- Layer 19: what the laws share: rings in boxes, SameRing, SamePair, Pair, Ring. -/
namespace Go.Sec
open Go.RowKit
theorem Ib.muts {w w' : World} {a : Option Addr} {n g : Nat} {T : TypeId} {vs : List Value} {L : List (Int × List UInt8)} (h : Ib w a n L) (hB : Blk w g T vs) (hne : ∀ v ∈ vs, (∀ x, v ≠ .int .u8 x) ∧ ∀ x, v ≠ .int .i64 x) (hM : Mut g w w') : Ib w' a n L := by
  by_cases h0 : n = 0
  · subst h0
    have := List.eq_nil_of_length_eq_zero h.len
    subst this
    exact Ib.nil _ _
  · refine h.mut (fun b o e hbg => ?_) hB (fun v hv => (hne v hv).1) hM
    subst e hbg
    rcases h.row with hh | ⟨b', off, ha, hb, hc⟩
    · exact h0 hh
    · injection ha with ha
      injection ha with e1 e2
      subst e1 e2
      obtain ⟨_, _, h1, _⟩ := hc 0 (by rw [h.len]; omega)
      rw [cell_of_row w _ _ _ T (0, 0) hB] at h1
      exact (hne _ (List.mem_of_getElem? (by simpa using h1))).2 _ rfl
theorem no1 (a : Option Addr) (n c : Nat) : ∀ v ∈ [Value.slice a n c], (∀ x, v ≠ .int .u8 x) ∧ ∀ x, v ≠ .int .i64 x := by simp
theorem no2 (a b : Option Addr) (n c m d : Nat) : ∀ v ∈ [Value.slice a n c, Value.slice b m d], (∀ x, v ≠ .int .u8 x) ∧ ∀ x, v ≠ .int .i64 x := by simp
/-- A ring in a box. -/
structure RB (T : TypeId) (r : List (Int × List UInt8)) (a : Option Addr) (n c g : Nat) (w : World) : Prop where
  blk : Blk w g T [.slice a n c]
  ib : Ib w a n r
  le : n ≤ c
theorem RB.ext {T : TypeId} {r : List (Int × List UInt8)} {a : Option Addr} {n c g : Nat} {w w' : World} (h : RB T r a n c g w) (hx : Ext w w') : RB T r a n c g w' := ⟨h.blk.extB hx, h.ib.ext hx, h.le⟩
theorem RB.muts {T T' : TypeId} {r : List (Int × List UInt8)} {a : Option Addr} {n c g g' : Nat} {w w' : World} {vs : List Value} (h : RB T r a n c g w) (hB : Blk w g' T' vs) (hne : ∀ v ∈ vs, (∀ x, v ≠ .int .u8 x) ∧ ∀ x, v ≠ .int .i64 x) (hM : Mut g' w w') (hg : g ≠ g') : RB T r a n c g w' :=
  ⟨Blk.turn hM h.blk hg, h.ib.muts hB hne hM, h.le⟩
theorem Sl.muts {w w' : World} {g n : Nat} {a : Option Addr} {l : List UInt8} {t : TypeId} {vs : List Value} (h : Sl w a n l) (hB : Blk w g t vs) (hne : ∀ v ∈ vs, (∀ x, v ≠ .int .u8 x) ∧ ∀ x, v ≠ .int .i64 x) (hM : Mut g w w') : Sl w' a n l := h.mut hB (fun v hv => (hne v hv).1) hM
end Go.Sec
namespace Go.Proofs.YtbfgeokngekdmaaGreat
open Go.RowKit Go.Sec Go.Oct Go.Sha Go.Aes Go.Cook Go.Chan BigFrame

set_option maxRecDepth 100000 in
set_option maxHeartbeats 4000000 in
theorem ckpair_any (a b a' b' : Option Addr) (n c m d n' c' m' d' : Nat) (u v : List UInt8) (w : World) (h1 : Sl w a n u) (h2 : Sl w b m v) (h3 : Sl w a' n' u) (h4 : Sl w b' m' v) :
    Calls Tryz.prog 13 #[.agg #[.slice a n c, .slice b m d], .agg #[.slice a' n' c', .slice b' m' d']] w fun e w' => e = .returned (.bool true) ∧ Ext w w' := by
  have s1 := fun W H1 H2 => same_any a a' n c n' c' u u W H1 H2
  have s2 := fun W H1 H2 => same_any b b' m d m' d' v v W H1 H2
  simp only [beq_self_eq_true] at s1 s2
  go_enter Tryz.func13, Tryz.ntmps13
  go_wp2_with (first
    | (go_at_call 35; (with_reducible refine (s1 ?_ ?hq153 ?hq154).mono ?_); (case hq153 => (repeat' (first | with_reducible assumption | (with_reducible exact zeros16 _) | (with_reducible exact sl_new1 _ _ _) | (with_reducible first | apply Sl.upE | apply Sl.upA | apply Sl.upD)))); (case hq154 => (repeat' (first | with_reducible assumption | (with_reducible exact zeros16 _) | (with_reducible exact sl_new1 _ _ _) | (with_reducible first | apply Sl.upE | apply Sl.upA | apply Sl.upD)))); rintro e w1 ⟨rfl, hxq⟩; obtain ⟨xq, rfl⟩ := hxq.out; clear hxq)
    | (go_at_call 35; (with_reducible refine (s2 ?_ ?hq155 ?hq156).mono ?_); (case hq155 => (repeat' (first | with_reducible assumption | (with_reducible exact zeros16 _) | (with_reducible exact sl_new1 _ _ _) | (with_reducible first | apply Sl.upE | apply Sl.upA | apply Sl.upD)))); (case hq156 => (repeat' (first | with_reducible assumption | (with_reducible exact zeros16 _) | (with_reducible exact sl_new1 _ _ _) | (with_reducible first | apply Sl.upE | apply Sl.upA | apply Sl.upD)))); rintro e w1 ⟨rfl, hxq⟩; obtain ⟨xq, rfl⟩ := hxq.out; clear hxq)
    | fail)
  go_ret
  exact ⟨rfl, (by repeat (first | (with_reducible first | exact Ext.refl _ | assumption | apply Ext.alloc | apply Ext.ext | apply Ext.drew | refine Ext.setCell ?_ ?_ _) | (focus (simp [go_sem]; done))))⟩

/-- The keys of the statements' kit. -/
def upP (s : Nat) : List UInt8 := (wbytes s 64).take 32
def dnP (s : Nat) : List UInt8 := (wbytes s 64).drop 32
theorem upP_length (s : Nat) : (upP s).length = 32 := by unfold upP; rw [List.length_take, wbytes_length]; omega
theorem dnP_length (s : Nat) : (dnP s).length = 32 := by unfold dnP; rw [List.length_drop, wbytes_length]
/-- A pair that the call hands back. -/
def PairP (u v : List UInt8) (w : World) (e : Ending) (w' : World) : Prop := ∃ a c b d, e = .returned (.agg #[.slice a 32 c, .slice b 32 d]) ∧ Sl w' a 32 u ∧ 32 ≤ c ∧ Sl w' b 32 v ∧ 32 ≤ d ∧ Ext w w'
set_option maxRecDepth 100000 in
set_option maxHeartbeats 4000000 in
theorem wpair_any (s : Nat) {sI : Int} (hs : sI = (s : Int)) (w : World) (hs2 : s ≤ 1000000) :
    Calls Tryz.prog 7 #[.int .i64 sI] w (PairP (upP s) (dnP s) w) := by
  subst hs
  go_enter Tryz.func7, Tryz.ntmps7
  go_wp2_with fail; (with_reducible refine (wbytes_any s 64 rfl (show (64 : Int) = ((64 : Nat) : Int) from rfl) _ (by omega) (by omega)).mono ?_); rintro e w1 ⟨a1, c1, rfl, hO1, hx1⟩
  have hS := hO1.sl
  have hc := hO1.le.1
  have hR := (Blk.new w #[.slice none 0 0, .slice none 0 0] 32).extB hx1
  have hE1 : Ext w w1 := (Ext.of_alloc _ _).trans hx1
  obtain ⟨pb, po, rfl, hpb, _⟩ := hS.at 0 (by omega)
  have s1 := hS.take 32 (by omega)
  have s2 := sl_from hS hc (show 32 < 64 by omega)
  have j1 : (32 : Int) ≤ (c1 : Int) := by omega
  have j2 : (64 : Int) ≤ (c1 : Int) := by omega
  have j3 : 32 < c1 := by omega
  have n32 : ¬ c1 = 32 := by omega
  go_wp2
  refine wp_region_vague 5 [[], [0], [], [2], [0, 1, 2, 3], [0, 1, 2, 3, 4]] (by kernel_rfl) (by kernel_rfl) (by kernel_rfl) (by kernel_rfl) ?_; simp only [List.take_succ_cons, List.take_zero, List.drop_succ_cons, List.drop_zero, List.take_nil, List.drop_nil]
  (repeat (apply VD_der; (case h => (intro us w' hx hf; obtain ⟨x, rfl⟩ := hx.out; refine ⟨rfl, ?_⟩; simp [go_sem, execOp, *]; (try simp (disch := omega) only [Go.IntWalk.i64_in, Go.IntWalk.rem_in, Go.IntWalk.wrap64_in]); rfl)); (try simp only [Act.put, List.setIfInBounds_toArray, List.set_cons_succ, List.set_cons_zero])))
  (refine VD_nil ?_; intro us w' hx hf; obtain ⟨x, rfl⟩ := hx.out; (try simp only [Act.put, List.setIfInBounds_toArray, List.set_cons_succ, List.set_cons_zero, wpList_none]); (try simp only [List.mem_cons, List.not_mem_nil, or_false, forall_eq_or_imp, forall_eq, List.nil_append, List.cons_append, List.mem_append, false_or, true_and, and_true] at hf); (try simp only [Nat.reduceAdd, Nat.zero_add] at hf); (try simp only [Nat.reduceAdd, Nat.zero_add]))
  go_wp2_with (first
    | (refine wpList_store_arr (RP2) rfl _ _ rfl (w.heap.size) (0) rfl ([.slice (some ⟨pb, po, none⟩) 32 c1, .slice (some ⟨pb, po + 32, none⟩) 32 (c1 - 32)]) rfl (32) _ ((hR.ext _)) (rfl) (by simp) (by first | exact one_u8 _ | (simp; done) | (simp; (repeat' (first | rfl | constructor)))) ?_; intro w9 hB9 hM9)
    | fail)
  refine bodyPost_ret (results_arr Tryz.results7 (RP2) _ _ (w.heap.size) (0) ([.slice (some ⟨pb, po, none⟩) 32 c1, .slice (some ⟨pb, po + 32, none⟩) 32 (c1 - 32)]) rfl (hB9.rd) (rfl)) rfl ?_
  exact ⟨_, _, _, _, rfl, (s1.ext (Ext.of_ext _ x)).muts (hR.ext x) (no2 _ _ _ _ _ _) hM9, by omega, (s2.ext (Ext.of_ext _ x)).muts (hR.ext x) (no2 _ _ _ _ _ _) hM9, by omega, endM hE1 (Ext.of_ext _ x) hM9 (Nat.le_refl _)⟩
end Go.Proofs.YtbfgeokngekdmaaGreat

/- Layer 19: the ring of the statements' kit, light. -/
namespace Go.Cook
open Go.Sha Go.Oct Go.Aes Go.Sec
theorem makeE_ok {r : Ring} {algo : Int} {up down nonce : List UInt8} (h : validR r = true) (h0 : 0 ≤ algo) (h1 : algo ≤ 65535) (hu : up.length = 32) (hd' : down.length = 32) (hn : nonce.length = 16) :
    makeE r algo up down nonce = (cookC (hd r) algo up down nonce, 0) := by
  unfold makeE
  rw [if_neg (by rw [h]; simp), if_neg (by omega), if_neg (by omega), if_neg (by omega)]
theorem ring0_facts (s : Nat) (key : List UInt8) (hs : s ≤ 100000) (t : Nat) (ht : t ≤ 100) : validR (rots (ring0 s key) t) = true ∧ rotateE (rots (ring0 s key) t) = (rots (ring0 s key) (t + 1), 0) ∧ (rots (ring0 s key) t).length ≤ 4 ∧ 1 ≤ (rots (ring0 s key) t).length := by
  have hh : (hd (ring0 s key)).1 = s := rfl
  obtain ⟨h1, h2⟩ := fineT (fine0 s key (by omega)) t (by rw [hh]; omega)
  obtain ⟨_, _, h3⟩ := h1.rot (by rw [h2, hh]; omega)
  obtain ⟨_, _, h4, h5⟩ := validR_iff.1 h1.ok
  exact ⟨h1.ok, h3, h5, h4⟩
end Go.Cook
namespace Go.Proofs.YtbfgeokngekdmaaGreat
open Go.RowKit Go.Sec Go.Oct Go.Sha Go.Aes Go.Cook Go.Chan BigFrame

/-- A ring that the call hands back. -/
def RgP (r : Ring) (w : World) (e : Ending) (w' : World) : Prop := ∃ a n c, e = .returned (.agg #[.slice a n c]) ∧ Ib w' a n r ∧ n ≤ c ∧ Ext w w'
set_option maxRecDepth 100000 in
set_option maxHeartbeats 8000000 in
theorem wring_any (s t : Nat) {sI : Int} (hs : sI = (s : Int)) (turns : Int) (ht : turns % 6 = (t : Int)) (w : World) (hs2 : s ≤ 100000) :
    Calls Tryz.prog 4 #[.int .i64 sI, .int .i64 turns] w (RgP (rots (ring0 s (wbytes s 32)) t) w) := by
  subst hs
  have ht5 : t ≤ 5 := by omega
  have HT := Lib.hid ht
  have HS := Lib.hid (show (s : Int) % 4294967296 = (s : Int) by omega)
  have hf := fun t ht => ring0_facts s (wbytes s 32) hs2 t ht
  have hst := fun a c W H1 H2 => rcstart_any (s : Int) a 32 c (wbytes s 32) W H1 H2
  rw [startE_ok (by omega) (wbytes_length _ _)] at hst
  obtain ⟨R0, hR0⟩ : ∃ R, ring0 s (wbytes s 32) = R := ⟨_, rfl⟩
  rw [hR0] at hst hf ⊢
  have hl0 := hf 0 (by omega)
  clear ht hR0
  go_enter Tryz.func4, Tryz.ntmps4
  go_wp2_with fail; (with_reducible refine (within_any (s : Int) 4294967296 _ (by omega) (by omega)).mono ?_); rintro e w1 ⟨rfl, hxq⟩; obtain ⟨xq, rfl⟩ := hxq.out; clear hxq
  rw [HS.out]
  go_wp2_with fail
  refine (key_any s rfl _ (by omega)).mono ?_
  rintro e w1 ⟨a1, c1, rfl, hO1, hx1⟩
  have hx0 : Ext w ((w.alloc (.cells #[.slice none 0 0] 24)).ext xq) := (by repeat (first | (with_reducible first | exact Ext.refl _ | assumption | apply Ext.alloc | apply Ext.ext | apply Ext.drew | refine Ext.setCell ?_ ?_ _) | (focus (simp [go_sem]; done))))
  have hB : Blk ((w.alloc (.cells #[.slice none 0 0] 24)).ext xq) w.heap.size 24 [.slice none 0 0] := (by repeat (first | assumption | (refine Blk.newAt _ _ _ _ ?_; first | rfl | (simp only [World.size_alloc]; done)) | apply Blk.ext | apply Blk.alloc | (refine Blk.other ?_ ?_ _; rotate_left; (simp <;> omega))))
  have hE1 := hx0.trans hx1
  have hB := hB.extB hx1
  go_wp2_with fail
  (with_reducible refine (hst _ _ _ hO1.sl hO1.le.1).mono ?_)
  rintro e w2 ⟨a2, n2, c2, rfl, hI2, hc2, hx2⟩
  have hE2 := hE1.trans hx2
  have hB := hB.extB hx2
  have hlt := hB.lt
  clear hx1 hx2 hx0 hE1 hO1 hst
  go_wp2_with (first
    | (refine wpList_alloc_store (RR1) rfl rfl _ _ rfl rfl rfl rfl (by simp [Act.put]) ([.slice a2 n2 c2]) rfl (by simp) (rfl) ((by simp; repeat' (first | rfl | constructor))) ?_; intro x hz _)
    | fail)
  obtain ⟨W, hW⟩ : ∃ W, W = w2.ext x := ⟨_, rfl⟩
  have hxW : Ext w2 W := by rw [hW]; exact (by repeat (first | (with_reducible first | exact Ext.refl _ | assumption | apply Ext.alloc | apply Ext.ext | apply Ext.drew | refine Ext.setCell ?_ ?_ _) | (focus (simp [go_sem]; done))))
  rw [← hW] at hz ⊢
  obtain ⟨g5, hg5⟩ : ∃ g, g = w2.heap.size := ⟨_, rfl⟩
  rw [← hg5] at hz hlt ⊢
  have hRB : RB 24 (rots R0 0) a2 n2 c2 g5 W := ⟨hz, hI2.ext hxW, hc2⟩
  have hB := hB.extB hxW
  have hE := hE2.trans hxW
  clear hW hxW hz hI2 hE2 hg5 hc2
  go_loopw [7] (fun v7 wr => ∃ (k : Nat) (a : Option Addr) (n c : Nat), k ≤ t ∧ v7 = .int .i64 k ∧ RB 24 (rots R0 k) a n c g5 wr ∧ Blk wr w.heap.size 24 [.slice none 0 0] ∧ Ext w wr) (fun v7 _ => t - (intOf v7).toNat)
  case atStart => exact ⟨0, _, _, _, Nat.zero_le _, rfl, hRB, hB, hE⟩
  case round =>
    clear hRB hB hE
    obtain ⟨k, a, n, c, hk, rfl, hRB, hB, hE⟩ := hrel
    go_wp2_with fail
    refine (within_any turns 6 _ (by omega) (by omega)).mono ?_
    rintro e w3 ⟨rfl, hx3⟩
    rw [HT.out]
    have hRB := hRB.ext hx3
    have hB := hB.extB hx3
    have hE := hE.trans hx3
    clear hx3
    obtain ⟨f1, f2, f3, f4⟩ := hf k (by omega)
    have hnl := hRB.ib.len
    by_cases hlt2 : k < t
    · have hki : (k : Int) < (t : Int) := by omega
      have hrot := fun W H => rcrotate_any a n c (rots R0 k) W H hRB.le (by omega)
      rw [f2] at hrot
      go_wp2_with (first
        | (refine wpList_load_arr (RR1) rfl _ rfl (g5) (0) rfl ([.slice a n c]) ((hRB.blk.rd)) (rfl) ?_)
        | fail)
      (with_reducible refine (hrot _ hRB.ib).mono ?_)
      rintro e w4 ⟨a4, n4, c4, rfl, hI4, hc4, hx4⟩
      have hRB := hRB.ext hx4
      have hB := hB.extB hx4
      have hE := hE.trans hx4
      go_wp2_with (first
        | (refine wpList_store_arr (RR1) rfl _ _ rfl (g5) (0) rfl ([.slice a4 n4 c4]) rfl (24) _ (hRB.blk) (rfl) (by simp) (by first | exact one_u8 _ | (simp; done) | (simp; (repeat' (first | rfl | constructor)))) ?_; intro w5 hB5 hM5)
        | fail)
      go_roundw
      case rel => exact ⟨k + 1, a4, n4, c4, by omega, by go_num, ⟨hB5, hI4.muts hRB.blk (no1 _ _ _) hM5, hc4⟩, Blk.turn hM5 hB (by omega), endM hE (Ext.refl _) hM5 (by omega)⟩
      case measure => simp [intOf]; omega
    · obtain rfl : k = t := by omega
      have hki : ¬ (k : Int) < (k : Int) := by omega
      go_wp2_with (first
        | (refine wpList_load_arr (RR1) rfl _ rfl (g5) (0) rfl ([.slice a n c]) ((hRB.blk.rd)) (rfl) ?_)
        | (refine wpList_store_arr (RR1) rfl _ _ rfl (w.heap.size) (0) rfl ([.slice a n c]) rfl (24) _ (hB) (rfl) (by simp) (by first | exact one_u8 _ | (simp; done) | (simp; (repeat' (first | rfl | constructor)))) ?_; intro w5 hB5 hM5)
        | fail)
      refine bodyPost_ret (results_arr Tryz.results4 (RR1) _ _ (w.heap.size) (0) ([.slice a n c]) rfl (hB5.rd) (rfl)) rfl ?_
      exact ⟨_, _, _, rfl, hRB.ib.muts hB (no1 _ _ _) hM5, hRB.le, endM hE (Ext.refl _) hM5 (Nat.le_refl _)⟩

def lightR (r : Ring) : Bool := decide (r.length ≤ 8) && r.all fun m => decide (m.2.length ≤ 60)
end Go.Proofs.YtbfgeokngekdmaaGreat
