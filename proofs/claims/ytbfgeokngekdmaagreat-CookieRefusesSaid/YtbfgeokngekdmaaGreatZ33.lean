/- Lemmas of this claim, several texts joined. -/
import Derived.Lib.SlBytesConst
import Derived.Test.YtbfgeokngekdmaaGreatZ31
set_option linter.unusedVariables false
set_option linter.unusedSimpArgs false
/- The walks of layer 19 of the document: Valid, Start, Rotate. -/
namespace Go.Cook
theorem seen_no {r : Ring} {i : Nat} {x : Int × List UInt8} (hx : r[i]? = some x) (h : ∀ m ∈ r.take i, m.1 ≠ x.1) : x.1 ∉ (r.take i).map (·.1) := fun hm => by
  obtain ⟨m, h1, h2⟩ := List.mem_map.1 hm
  exact h m h1 h2
end Go.Cook
namespace Go.Proofs.YtbfgeokngekdmaaGreat
open Go.RowKit Go.Sec Go.Oct Go.Sha Go.Aes Go.Cook Go.Chan BigFrame

theorem sl_startS (w : World) (t : TypeId) (fr : Nat × Nat) : Sl (w.alloc (.cells #[.int .u8 115, .int .u8 101, .int .u8 99, .int .u8 116, .int .u8 105, .int .u8 109, .int .u8 101, .int .u8 32, .int .u8 115, .int .u8 116, .int .u8 97, .int .u8 114, .int .u8 116] t fr)) (some ⟨w.heap.size, 0, none⟩) 13 startS := ⟨rfl, rd_marked w #[.int .u8 115, .int .u8 101, .int .u8 99, .int .u8 116, .int .u8 105, .int .u8 109, .int .u8 101, .int .u8 32, .int .u8 115, .int .u8 116, .int .u8 97, .int .u8 114, .int .u8 116] t fr⟩
theorem sl_nextS (w : World) (t : TypeId) (fr : Nat × Nat) : Sl (w.alloc (.cells #[.int .u8 115, .int .u8 101, .int .u8 99, .int .u8 116, .int .u8 105, .int .u8 109, .int .u8 101, .int .u8 32, .int .u8 110, .int .u8 101, .int .u8 120, .int .u8 116] t fr)) (some ⟨w.heap.size, 0, none⟩) 12 nextS := ⟨rfl, rd_marked w #[.int .u8 115, .int .u8 101, .int .u8 99, .int .u8 116, .int .u8 105, .int .u8 109, .int .u8 101, .int .u8 32, .int .u8 110, .int .u8 101, .int .u8 120, .int .u8 116] t fr⟩

set_option maxRecDepth 100000 in
set_option maxHeartbeats 4000000 in
theorem rckvalid_any (a : Option Addr) (n c : Nat) (r : Ring) (w : World) (hI : Ib w a n r) (hc : n ≤ c) (hn : n ≤ 1000000) :
    Calls Tryz.prog 17 #[.agg #[.slice a n c]] w fun e w' => e = .returned (.bool (validR r)) ∧ Ext w w' := by
  have hrl := hI.len
  by_cases n1 : 1 ≤ n
  · by_cases n4 : n ≤ 4
    · have e1 : ¬ (n : Int) < 1 := by omega
      have e2 : ¬ (4 : Int) < (n : Int) := by omega
      go_enter Tryz.func17, Tryz.ntmps17
      go_wp2_with fail
      go_loopw [3, 4] (fun v3 _ wr => ∃ k : Nat, k ≤ n ∧ v3 = .int .i64 k ∧ (∀ m ∈ r.take k, okM m = true) ∧ ((r.take k).map (·.1)).Nodup ∧ Blk wr w.heap.size 24 [.slice a n c] ∧ Ext w wr)
        (fun v3 _ _ => n - (intOf v3).toNat)
      case atStart => exact ⟨0, Nat.zero_le _, rfl, by simp, by simp, Blk.new _ _ _, (by repeat (first | (with_reducible first | exact Ext.refl _ | assumption | apply Ext.alloc | apply Ext.ext | apply Ext.drew | refine Ext.setCell ?_ ?_ _) | (focus (simp [go_sem]; done))))⟩
      case round =>
        obtain ⟨k, hk, rfl, h1, h2, hB, hE⟩ := hrel
        haveI := hB.blt
        have hbc := hB.cell? 0 rfl
        by_cases hlt : k < n
        · have hki : (k : Int) < (n : Int) := by omega
          have hk0 : (0 : Int) ≤ (k : Int) := by omega
          obtain ⟨x, hx⟩ : ∃ x, r[k]? = some x := ⟨_, List.getElem?_eq_getElem (by omega)⟩
          have hbad := validR_bad hx
          have hsn := ids_snoc hx h2
          have hts := take_snoc hx
          have hno := seen_no hx
          obtain ⟨id, ky⟩ := x
          obtain ⟨b, off, g, cg, rfl, hb, hc0, hc1, hSd, hcd⟩ := (hI.ext hE).at k hlt _ hx
          simp only at hc0 hc1 hSd hcd hbad hsn hno
          haveI := hb
          by_cases b1 : id < 0
          · have hv := Lib.hid (hbad (.inl (by unfold okM; simp; omega)))
            go_wp2_with fail
            go_ret
            exact ⟨by rw [hv.out]; rfl, hE⟩
          · by_cases b2 : 4294967295 < id
            · have hv := Lib.hid (hbad (.inl (by unfold okM; simp; omega)))
              go_wp2_with fail
              go_ret
              exact ⟨by rw [hv.out]; rfl, hE⟩
            · by_cases b3 : ky.length = 32
              · have b3i : (((ky.length : Nat) : Int) != 32) = false := by rw [bne_eq_false_iff_eq]; omega
                have hok : okM (id, ky) = true := by unfold okM; simp; omega
                clear b3
                go_wp2_with fail
                go_loopw [4] (fun v4 wq => ∃ j : Nat, j ≤ k ∧ v4 = .int .i64 j ∧ Hid (∀ m ∈ r.take j, m.1 ≠ id) ∧ Blk wq w.heap.size 24 [.slice (some ⟨b, off, none⟩) n c] ∧ Ext wr wq) (fun v4 _ => k - (intOf v4).toNat)
                case atStart => exact ⟨0, Nat.zero_le _, rfl, Lib.hid (by simp), hB, Ext.refl _⟩
                case round =>
                  clear hB hbc
                  obtain ⟨j, hj, rfl, hm, hB, hq⟩ := hrel
                  haveI := hB.blt
                  have hbc := hB.cell? 0 rfl
                  haveI : BlkLt b wr := ⟨Nat.lt_of_lt_of_le hb.lt hq.size⟩
                  have hc0 := (hq.cell (p := ⟨b, _, none⟩) hb.lt).trans hc0
                  by_cases hjl : j < k
                  · have hji : (j : Int) < (k : Int) := by omega
                    have hj0 : (0 : Int) ≤ (j : Int) := by omega
                    have hjn : (j : Int) < (n : Int) := by omega
                    obtain ⟨y, hy⟩ : ∃ y, r[j]? = some y := ⟨_, List.getElem?_eq_getElem (by omega)⟩
                    have htj := take_snoc hy
                    obtain ⟨b', off', g', cg', hbe, _, hd0, _, _, _⟩ := (hI.ext (hE.trans hq)).at j (by omega) _ hy
                    injection hbe with hbe
                    injection hbe with hbe1 hbe2
                    subst hbe1 hbe2
                    by_cases hid : y.1 = id
                    · have hv := Lib.hid (hbad (.inr (by
                        obtain ⟨hj', he⟩ := List.getElem?_eq_some_iff.1 hy
                        exact List.mem_map.2 ⟨y, List.mem_take_iff_getElem.2 ⟨j, by omega, he⟩, hid⟩)))
                      rw [hid] at hd0
                      have hdd : (id == id) = true := by simp
                      go_wp2_with fail
                      refine wp_region_vague 13 [[], [0], [], [0, 1, 2], [0, 1, 2, 3], [0, 1, 2, 3, 4], [], [6], [], [6, 7, 8], [6, 7, 8, 9], [6, 7, 8, 9, 10], [0, 1, 2, 3, 4, 5, 6, 7, 8, 9, 10, 11]] (by kernel_rfl) (by kernel_rfl) (by kernel_rfl) (by kernel_rfl) ?_; simp only [List.take_succ_cons, List.take_zero, List.drop_succ_cons, List.drop_zero, List.take_nil, List.drop_nil]
                      (repeat (apply VD_der; (case h => (intro us w' hx hf; obtain ⟨x, rfl⟩ := hx.out; refine ⟨rfl, ?_⟩; simp [go_sem, execOp, *]; (try simp (disch := omega) only [Go.IntWalk.i64_in, Go.IntWalk.rem_in, Go.IntWalk.wrap64_in]); rfl)); (try simp only [Act.put, List.setIfInBounds_toArray, List.set_cons_succ, List.set_cons_zero])))
                      (refine VD_nil ?_; intro us w' hx hf; obtain ⟨x, rfl⟩ := hx.out; (try simp only [Act.put, List.setIfInBounds_toArray, List.set_cons_succ, List.set_cons_zero, wpList_none]); (try simp only [List.mem_cons, List.not_mem_nil, or_false, forall_eq_or_imp, forall_eq, List.nil_append, List.cons_append, List.mem_append, false_or, true_and, and_true] at hf); (try simp only [Nat.reduceAdd, Nat.zero_add] at hf); (try simp only [Nat.reduceAdd, Nat.zero_add]))
                      go_wp2_with fail
                      go_ret
                      exact ⟨by rw [hv.out]; rfl, (hE.trans hq).ext x⟩
                    · have hdd : (y.1 == id) = false := by simpa using hid
                      have hm2 := Lib.hid (show ∀ m ∈ r.take (j + 1), m.1 ≠ id by
                        rw [htj]
                        intro m hm'
                        rcases List.mem_append.1 hm' with h | h
                        · exact hm.out m h
                        · rw [List.mem_singleton.1 h]; exact hid)
                      go_wp2_with fail
                      refine wp_region_vague 13 [[], [0], [], [0, 1, 2], [0, 1, 2, 3], [0, 1, 2, 3, 4], [], [6], [], [6, 7, 8], [6, 7, 8, 9], [6, 7, 8, 9, 10], [0, 1, 2, 3, 4, 5, 6, 7, 8, 9, 10, 11]] (by kernel_rfl) (by kernel_rfl) (by kernel_rfl) (by kernel_rfl) ?_; simp only [List.take_succ_cons, List.take_zero, List.drop_succ_cons, List.drop_zero, List.take_nil, List.drop_nil]
                      (repeat (apply VD_der; (case h => (intro us w' hx hf; obtain ⟨x, rfl⟩ := hx.out; refine ⟨rfl, ?_⟩; simp [go_sem, execOp, *]; (try simp (disch := omega) only [Go.IntWalk.i64_in, Go.IntWalk.rem_in, Go.IntWalk.wrap64_in]); rfl)); (try simp only [Act.put, List.setIfInBounds_toArray, List.set_cons_succ, List.set_cons_zero])))
                      (refine VD_nil ?_; intro us w' hx hf; obtain ⟨x, rfl⟩ := hx.out; (try simp only [Act.put, List.setIfInBounds_toArray, List.set_cons_succ, List.set_cons_zero, wpList_none]); (try simp only [List.mem_cons, List.not_mem_nil, or_false, forall_eq_or_imp, forall_eq, List.nil_append, List.cons_append, List.mem_append, false_or, true_and, and_true] at hf); (try simp only [Nat.reduceAdd, Nat.zero_add] at hf); (try simp only [Nat.reduceAdd, Nat.zero_add]))
                      go_wp2_with fail
                      go_roundw
                      case rel => exact ⟨j + 1, by omega, by go_num, hm2, hB.ext x, hq.ext x⟩
                      case measure => simp [intOf]; omega
                  · obtain rfl : j = k := by omega
                    have hji : ¬ (j : Int) < (j : Int) := by omega
                    have hsn2 := hsn (hno hm.out)
                    go_wp2_with fail
                    go_roundw
                    case rel =>
                      refine ⟨j + 1, by omega, by go_num, ?_, hsn2, hB, hE.trans hq⟩
                      intro m hm'
                      rw [hts] at hm'
                      rcases List.mem_append.1 hm' with h | h
                      · exact h1 m h
                      · rw [List.mem_singleton.1 h]; exact hok
                    case measure => simp [intOf]; omega
              · have hv := Lib.hid (hbad (.inl (by unfold okM; simp; omega)))
                have b3i : (((ky.length : Nat) : Int) != 32) = true := by rw [bne_iff_ne]; omega
                go_wp2_with fail
                go_ret
                exact ⟨by rw [hv.out]; rfl, hE⟩
        · have hkk : k = n := by omega
          subst hkk
          have hki : ¬ (k : Int) < (k : Int) := by omega
          rw [List.take_of_length_le (by omega)] at h1 h2
          have hv := Lib.hid (show validR r = true by rw [validR_end h1 h2, hrl]; exact decide_eq_true ⟨n1, n4⟩)
          go_wp2_with fail
          go_ret
          exact ⟨by rw [hv.out]; rfl, hE⟩
    · have e1 : ¬ (n : Int) < 1 := by omega
      have e2 : (4 : Int) < (n : Int) := by omega
      have hv := Lib.hid (show validR r = false by
        by_cases h : validR r = true
        · have := (validR_iff.1 h).2.2.2; omega
        · simpa using h)
      go_enter Tryz.func17, Tryz.ntmps17
      go_wp2_with fail
      go_ret
      exact ⟨by rw [hv.out]; rfl, (by repeat (first | (with_reducible first | exact Ext.refl _ | assumption | apply Ext.alloc | apply Ext.ext | apply Ext.drew | refine Ext.setCell ?_ ?_ _) | (focus (simp [go_sem]; done))))⟩
  · have e1 : (n : Int) < 1 := by omega
    have hv := Lib.hid (show validR r = false by
      by_cases h : validR r = true
      · have := (validR_iff.1 h).2.2.1; omega
      · simpa using h)
    go_enter Tryz.func17, Tryz.ntmps17
    go_wp2_with fail
    go_ret
    exact ⟨by rw [hv.out]; rfl, (by repeat (first | (with_reducible first | exact Ext.refl _ | assumption | apply Ext.alloc | apply Ext.ext | apply Ext.drew | refine Ext.setCell ?_ ?_ _) | (focus (simp [go_sem]; done))))⟩

set_option maxRecDepth 100000 in
set_option maxHeartbeats 4000000 in
theorem rcstart_any (id : Int) (a : Option Addr) (n c : Nat) (seed : List UInt8) (w : World) (h : Sl w a n seed) (hnc : n ≤ c) :
    Calls Tryz.prog 14 #[.int .i64 id, .slice a n c] w (RingP (startE id seed) w) := by
  have hll := h.len
  by_cases h1 : id < 0 ∨ 4294967295 < id
  · have e : startE id seed = ([], 4) := by unfold startE; rw [if_pos h1]
    rw [e]
    clear hll e
    rcases h1 with h1 | h1
    · skip
      go_enter Tryz.func14, Tryz.ntmps14
      go_wp2_with fail
      refine bodyPost_ret (v := .tuple #[.agg #[.slice none 0 0], .int .i64 4]) (by simp [results, Tryz.results14, go_sem]) rfl ?_
      exact RingP.err _ _ _ (by repeat (first | (with_reducible first | exact Ext.refl _ | assumption | apply Ext.alloc | apply Ext.ext | apply Ext.drew | refine Ext.setCell ?_ ?_ _) | (focus (simp [go_sem]; done))))
    · have h2 : ¬ id < 0 := by omega
      go_enter Tryz.func14, Tryz.ntmps14
      go_wp2_with fail
      refine bodyPost_ret (v := .tuple #[.agg #[.slice none 0 0], .int .i64 4]) (by simp [results, Tryz.results14, go_sem]) rfl ?_
      exact RingP.err _ _ _ (by repeat (first | (with_reducible first | exact Ext.refl _ | assumption | apply Ext.alloc | apply Ext.ext | apply Ext.drew | refine Ext.setCell ?_ ?_ _) | (focus (simp [go_sem]; done))))
  · have i1 : ¬ id < 0 := by omega
    have i2 : ¬ 4294967295 < id := by omega
    by_cases h2 : n = 32
    · subst h2
      have e : startE id seed = ([(id, expandK seed startS 32)], 0) := by unfold startE; rw [if_neg h1, if_neg (by omega)]
      rw [e]
      have hc8 := Lib.run_convert_bytes_const (P := Tryz.prog) (w.alloc (.cells #[.slice none 0 0] 24)) 27 5 #[.int .u8 115, .int .u8 101, .int .u8 99, .int .u8 116, .int .u8 105, .int .u8 109, .int .u8 101, .int .u8 32, .int .u8 115, .int .u8 116, .int .u8 97, .int .u8 114, .int .u8 116] 13 13 U.sl hu8
      rw [World.size_alloc] at hc8
      clear hll e h1
      go_enter Tryz.func14, Tryz.ntmps14
      go_wp2_with fail
      have hx0 : Ext w (w.alloc (.cells #[.slice none 0 0] 24)) := Ext.of_alloc _ _
      have hxa : Ext w ((w.alloc (.cells #[.slice none 0 0] 24)).alloc (.cells #[.int .u8 115, .int .u8 101, .int .u8 99, .int .u8 116, .int .u8 105, .int .u8 109, .int .u8 101, .int .u8 32, .int .u8 115, .int .u8 116, .int .u8 97, .int .u8 114, .int .u8 116] 5 (13, 14))) := (Ext.of_alloc _ _).alloc _
      have hSc := sl_startS (w.alloc (.cells #[.slice none 0 0] 24)) 5 (13, 14)
      rw [World.size_alloc] at hSc
      (with_reducible refine (rexpand_any _ _ 32 c 13 _ 32 (rfl : (32 : Int) = ((32 : Nat) : Int)) seed startS _ (h.ext hxa) hnc (by omega) hSc (by decide) (by decide)).mono ?_)
      rintro e w1 ⟨b1, d1, rfl, hS1, hd1, hx1⟩
      generalize expandK seed startS 32 = K at *
      have hR := ((Blk.new w #[.slice none 0 0] 24).alloc (.cells #[.int .u8 115, .int .u8 101, .int .u8 99, .int .u8 116, .int .u8 105, .int .u8 109, .int .u8 101, .int .u8 32, .int .u8 115, .int .u8 116, .int .u8 97, .int .u8 114, .int .u8 116] 5 (13, 14))).extB hx1
      have hE1 : Ext w w1 := hxa.trans hx1
      have hIb := ib1 hS1 hd1 id 48
      have hlt := hR.lt
      have hRx := hR.alloc (.cells #[.int .i64 id, .slice b1 32 d1] 48)
      haveI := hRx.blt
      go_wp2_with (first
        | (refine wpList_store_arr (RR1) rfl _ _ rfl (w.heap.size) (0) rfl ([.slice (some ⟨w1.heap.size, 0, none⟩) 1 1]) rfl (24) _ (hRx) (rfl) (by simp) (by first | exact one_u8 _ | (simp; done) | (simp; (repeat' (first | rfl | constructor)))) ?_; intro w9 hB9 hM9)
        | fail)
      refine bodyPost_ret (results_arr_tmp Tryz.results14 (RR1) _ _ (w.heap.size) (0) ([.slice (some ⟨w1.heap.size, 0, none⟩) 1 1]) rfl (hB9.rd) (rfl) (.int .i64 0) rfl) rfl ?_
      have hE2 : Ext w (w1.alloc (.cells #[.int .i64 id, .slice b1 32 d1] 48)) := hE1.alloc _
      exact ⟨_, _, _, rfl, hIb.mut (fun b o e => by injection e with e; injection e with e _; omega) hRx (by simp) hM9, Nat.le_refl _, Below.trans hE2 (hM9.below (Nat.le_refl _) hE2.size)⟩
    · have e : startE id seed = ([], 5) := by unfold startE; rw [if_neg h1, if_pos (by omega)]
      rw [e]
      have h2' : (((n : Nat) : Int) != 32) = true := by rw [bne_iff_ne]; omega
      clear hll e h2 h1
      go_enter Tryz.func14, Tryz.ntmps14
      go_wp2_with fail
      refine bodyPost_ret (v := .tuple #[.agg #[.slice none 0 0], .int .i64 5]) (by simp [results, Tryz.results14, go_sem]) rfl ?_
      exact RingP.err _ _ _ (by repeat (first | (with_reducible first | exact Ext.refl _ | assumption | apply Ext.alloc | apply Ext.ext | apply Ext.drew | refine Ext.setCell ?_ ?_ _) | (focus (simp [go_sem]; done))))
end Go.Proofs.YtbfgeokngekdmaaGreat

/- The walks of layer 19 of the document: cookie, Make, ID. -/
namespace Go.Cook
open Go.Sha Go.Oct Go.Aes Go.Sec
theorem cookC_len {id algo : Int} {ky up down nonce : List UInt8} (h0 : 0 ≤ id) (h1 : id ≤ 4294967295) (hk : ky.length = 32) (hn : nonce.length = 16) (hu : up.length = 32) (hd' : down.length = 32) : (cookC (id, ky) algo up down nonce).length = 104 :=
  (cookC_parts (m := (id, ky)) h0 h1 hk hn hu hd').1
end Go.Cook
namespace Go.Proofs.YtbfgeokngekdmaaGreat
open Go.RowKit Go.Sec Go.Oct Go.Sha Go.Aes Go.Cook Go.Chan BigFrame

theorem sl_two (w : World) (t : TypeId) (fr : Nat × Nat) : Sl (w.alloc (.cells #[.int .u8 0, .int .u8 0] t fr)) (some ⟨w.heap.size, 0, none⟩) 2 [0, 0] := ⟨rfl, rd_marked w #[.int .u8 0, .int .u8 0] t fr⟩
theorem rput_int (id : Int) (n : Nat) {nI : Int} (hn : nI = (n : Int)) (w : World) (h0 : 0 ≤ id) (h1 : id < 18446744073709551616) (hn2 : n ≤ 64) :
    Calls Tryz.prog 21 #[.int .u64 (IntKind.u64.wrap id), .int .i64 nI] w (Fresh n (putL n (UInt64.ofNat id.toNat)) w) := by
  subst hn
  rw [n64_int id h0 h1]
  exact put_any (UInt64.ofNat id.toNat) n w hn2

set_option maxRecDepth 100000 in
set_option maxHeartbeats 4000000 in
theorem rcookie_any (id algo : Int) (a u v b : Option Addr) (ca cu cv cb : Nat) (ky up down nonce : List UInt8) (w : World) (h0 : 0 ≤ id) (h1 : id ≤ 4294967295) (g0 : 0 ≤ algo) (g1 : algo ≤ 65535) (hk : Sl w a 32 ky) (hca : 32 ≤ ca) (hu : Sl w u 32 up) (hcu : 32 ≤ cu) (hv : Sl w v 32 down) (hcv : 32 ≤ cv) (hn : Sl w b 16 nonce) (hcb : 16 ≤ cb) :
    Calls Tryz.prog 18 #[.agg #[.int .i64 id, .slice a 32 ca], .int .i64 algo, .agg #[.slice u 32 cu, .slice v 32 cv], .slice b 16 cb] w (Fresh 104 (cookC (id, ky) algo up down nonce) w) := by
  have hul := hu.len
  have hvl := hv.len
  have hnl := hn.len
  obtain ⟨pa, hpa⟩ : ∃ pa, putL 2 (UInt64.ofNat algo.toNat) = pa := ⟨_, rfl⟩
  have hpal : pa.length = 2 := by rw [← hpa]; exact putL_length _ _
  have hpua := fun W => rput_int algo 2 (show (2 : Int) = ((2 : Nat) : Int) from rfl) W g0 (by omega) (by omega)
  have hpui := fun W => rput_int id 4 (show (4 : Int) = ((4 : Nat) : Int) from rfl) W h0 (by omega) (by omega)
  rw [hpa] at hpua
  rw [show putL 4 (UInt64.ofNat id.toNat) = idB id from rfl] at hpui
  obtain ⟨pl, hpl⟩ : ∃ pl, pa ++ ([0, 0] ++ (up ++ down)) = pl := ⟨_, rfl⟩
  have hpll : pl.length = 68 := by rw [← hpl]; simp only [List.length_append, List.length_cons, List.length_nil]; omega
  have hck : cookC (id, ky) algo up down nonce = idB id ++ (nonce ++ (sealE ky [idB id, nonce] pl).1) := by unfold cookC plainC; rw [hpa, hpl]
  obtain ⟨sd, hsd, hsl⟩ := seal_facts (ky := ky) (nonce := nonce) (p := pl) id hk.len hn.len hpll
  have hseal := fun bA cA bB cB W k1 k2 k3 => rseal_any a bA bB 32 ca 2 cA 68 cB ky [idB id, nonce] pl W k1 hca k2 (by omega) k3
  rw [hsd] at hseal hck
  simp only at hseal hck
  rw [hsl] at hseal
  rw [hck]
  have hidl := idB_length id
  generalize idB id = ib at *
  have hw4 : IntKind.u64.wrap id = id := by rw [IntKind.wrap_u64]; omega
  rw [hw4] at hpui
  clear hsd hck hpa
  go_enter Tryz.func18, Tryz.ntmps18
  go_wp2_with fail; (with_reducible refine (hpui _).mono ?_); rintro e w1 ⟨a1, c1, rfl, hO1, hx1⟩
  have hle1 := hO1.le
  have hx0 : Ext w ((w.alloc (.cells #[.int .i64 id, .slice a 32 ca] 48)).alloc (.cells #[.slice u 32 cu, .slice v 32 cv] 32)) := (Ext.of_alloc _ _).alloc _
  have hE1 : Ext w w1 := hx0.trans hx1
  have hB := ((Blk.new w #[.int .i64 id, .slice a 32 ca] 48).alloc (.cells #[.slice u 32 cu, .slice v 32 cv] 32)).extB hx1
  have hP := (Blk.newAt (w.alloc (.cells #[.int .i64 id, .slice a 32 ca] 48)) #[.slice u 32 cu, .slice v 32 cv] 32 (w.heap.size + 1) (by simp)).extB hx1
  haveI := hB.blt
  haveI := hP.blt
  have f1 : w1.cell? ⟨w.heap.size, 1, none⟩ = some (.slice a 32 ca) := hB.cell? 1 rfl
  have f2 : w1.cell? ⟨w.heap.size + 1, 0, none⟩ = some (.slice u 32 cu) := hP.cell? 0 rfl
  have f3 : w1.cell? ⟨w.heap.size + 1, 1, none⟩ = some (.slice v 32 cv) := hP.cell? 1 rfl
  have hk1 := hk.ext hE1
  have hu1 := hu.ext hE1
  have hv1 := hv.ext hE1
  have hn1 := hn.ext hE1
  have hi1 := hO1.sl
  go_wp2_with fail
  refine wp_region_vague 21 [[], [0], [], [], [2, 3], [], [5], [5, 6], [], [], [9], [], [11], [5, 6, 7, 8, 9, 10, 11, 12], [5, 6, 7, 8, 9, 10, 11, 12, 13], [0, 1, 2, 3, 4, 5, 6, 7, 8, 9, 10, 11, 12, 13, 14], [0, 1, 2, 3, 4, 5, 6, 7, 8, 9, 10, 11, 12, 13, 14, 15], [0, 1, 2, 3, 4, 5, 6, 7, 8, 9, 10, 11, 12, 13, 14, 15, 16], [0, 1, 2, 3, 4, 5, 6, 7, 8, 9, 10, 11, 12, 13, 14, 15, 16], [0, 1, 2, 3, 4, 5, 6, 7, 8, 9, 10, 11, 12, 13, 14, 15, 16, 17], [0, 1, 2, 3, 4, 5, 6, 7, 8, 9, 10, 11, 12, 13, 14, 15, 16, 17, 18, 19]] (by kernel_rfl) (by kernel_rfl) (by kernel_rfl) (by kernel_rfl) ?_; simp only [List.take_succ_cons, List.take_zero, List.drop_succ_cons, List.drop_zero, List.take_nil, List.drop_nil]
  (repeat (apply VD_der; (case h => (intro us w' hx hf; obtain ⟨x, rfl⟩ := hx.out; refine ⟨rfl, ?_⟩; simp [go_sem, execOp, *]; (try simp (disch := omega) only [Go.IntWalk.i64_in, Go.IntWalk.rem_in, Go.IntWalk.wrap64_in]); rfl)); (try simp only [Act.put, List.setIfInBounds_toArray, List.set_cons_succ, List.set_cons_zero])))
  (refine VD_vag (fun p => .slice (p 0).1 2 2) (fun p w'' => Bsc w'' (p 0).1 2 [ib, nonce]) (fun p w w' h hx => by first | exact h.ext hx | exact ⟨h.1.ext hx, h.2.ext hx⟩ | exact ⟨h.1.ext hx, h.2⟩ | exact ⟨h.1.ext hx, h.2.1.ext hx, h.2.2.ext hx⟩) (fun us w' hx hf => ⟨rfl, ?_⟩) ?_; (unfold gives; simp [go_sem, execOp]; exact ⟨fun _ => (some ⟨w'.heap.size, 0, none⟩, 0), rfl, Ext.of_alloc _ _, bsc2 (hi1.ext hx) hle1.1 (hn1.ext hx) hcb _⟩))
  (repeat (apply VD_der; (case h => (intro us w' hx hf; obtain ⟨x, rfl⟩ := hx.out; refine ⟨rfl, ?_⟩; simp [go_sem, execOp, *]; (try simp (disch := omega) only [Go.IntWalk.i64_in, Go.IntWalk.rem_in, Go.IntWalk.wrap64_in]); rfl)); (try simp only [Act.put, List.setIfInBounds_toArray, List.set_cons_succ, List.set_cons_zero])))
  (refine VD_vag (fun p => .slice (p 0).1 (2) (p 0).2) (fun p w'' => Own w'' 0 (p 0).1 (2) (p 0).2 (pa)) (fun p w w' h hx => h.ext hx) (fun us w' hx hf => ⟨rfl, ?_⟩) ?_; (unfold gives; simp [go_sem, execOp]; exact vag_fresh (Nat.zero_le _) (hpua _)))
  (refine VD_vag (fun p => .slice (p 0).1 2 2) (fun p w'' => Sl w'' (p 0).1 2 [0, 0]) (fun p w w' h hx => by first | exact h.ext hx | exact ⟨h.1.ext hx, h.2.ext hx⟩ | exact ⟨h.1.ext hx, h.2⟩ | exact ⟨h.1.ext hx, h.2.1.ext hx, h.2.2.ext hx⟩) (fun us w' hx hf => ⟨rfl, ?_⟩) ?_; (unfold gives; simp [go_sem, execOp]; exact ⟨fun _ => (some ⟨w'.heap.size, 0, none⟩, 0), rfl, Ext.of_alloc _ _, sl_two _ _ _⟩))
  (repeat (apply VD_der; (case h => (intro us w' hx hf; obtain ⟨x, rfl⟩ := hx.out; refine ⟨rfl, ?_⟩; simp [go_sem, execOp, *]; (try simp (disch := omega) only [Go.IntWalk.i64_in, Go.IntWalk.rem_in, Go.IntWalk.wrap64_in]); rfl)); (try simp only [Act.put, List.setIfInBounds_toArray, List.set_cons_succ, List.set_cons_zero])))
  (refine VD_vag (fun p => .slice (p 0).1 (4) (4)) (fun p w'' => Bss w'' (p 0).1 (4) ([pa, [0, 0], up, down])) (fun p w w' h hx => h.ext hx) (fun us w' hx hf => ⟨rfl, ?_⟩) ?_; (unfold gives; simp [go_sem, execOp]; exact ⟨fun _ => (some ⟨w'.heap.size, 0, none⟩, 0), rfl, Ext.of_alloc _ _, bss4 ((hf _ (List.mem_append_left _ (List.mem_append_right _ (List.mem_singleton_self _))) rfl)).sl (hf _ (List.mem_append_right _ (List.mem_singleton_self _)) rfl) (hu1.ext hx) (hv1.ext hx) _⟩))
  (refine VD_vag (fun p => .slice (p 0).1 (68) (p 0).2) (fun p w'' => Own w'' 0 (p 0).1 (68) (p 0).2 (pl)) (fun p w w' h hx => h.ext hx) (fun us w' hx hf => ⟨rfl, ?_⟩) ?_; (unfold gives; simp [go_sem, execOp]; exact vag_fresh (Nat.zero_le _) ((by have := join_any _ 4 4 [pa, [0, 0], up, down] w' (by exact (hf _ (List.mem_append_right _ (List.mem_singleton_self _)) rfl)) (by omega) 68 (by rw [joinL4, hpl]; exact hpll) (by omega); rw [joinL4, hpl] at this; exact this))))
  (refine VD_vag (fun p => .tuple #[.slice (p 0).1 (84) (p 0).2, .int .i64 0]) (fun p w'' => Sl w'' (p 0).1 (84) (sd) ∧ (84) ≤ (p 0).2) (fun p w w' h hx => ⟨h.1.ext hx, h.2⟩) (fun us w' hx hf => ⟨rfl, ?_⟩) ?_; (unfold gives; simp [go_sem, execOp]; exact vag_read (hseal _ _ _ _ _ (hk1.ext hx) (hf _ (List.mem_append_left _ (List.mem_append_left _ (List.mem_append_left _ (List.mem_append_left _ (List.mem_append_right _ (List.mem_singleton_self _)))))) rfl) ((hf _ (List.mem_append_right _ (List.mem_singleton_self _)) rfl)).sl ((hf _ (List.mem_append_right _ (List.mem_singleton_self _)) rfl)).le.1)))
  (repeat (apply VD_der; (case h => (intro us w' hx hf; obtain ⟨x, rfl⟩ := hx.out; refine ⟨rfl, ?_⟩; simp [go_sem, execOp, *]; (try simp (disch := omega) only [Go.IntWalk.i64_in, Go.IntWalk.rem_in, Go.IntWalk.wrap64_in]); rfl)); (try simp only [Act.put, List.setIfInBounds_toArray, List.set_cons_succ, List.set_cons_zero])))
  (refine VD_nil ?_; intro us w' hx hf; obtain ⟨x, rfl⟩ := hx.out; (try simp only [Act.put, List.setIfInBounds_toArray, List.set_cons_succ, List.set_cons_zero, wpList_none]); (try simp only [List.mem_cons, List.not_mem_nil, or_false, forall_eq_or_imp, forall_eq, List.nil_append, List.cons_append, List.mem_append, false_or, true_and, and_true] at hf); (try simp only [Nat.reduceAdd, Nat.zero_add] at hf); (try simp only [Nat.reduceAdd, Nat.zero_add]))
  obtain ⟨_, _, _, _, _, hSd, hcd⟩ := hf
  have hx2 : Ext w1 (w1.ext x) := Ext.of_ext _ _
  have hJ := bss3 (c1 := c1) (c2 := cb) (c3 := (us 15 0).2) (hi1.ext hx2) (hn1.ext hx2) hSd 27
  go_wp2_with fail
  (with_reducible refine (join_any _ _ _ _ _ hJ (by omega) 104 (by rw [joinL3]; simp only [List.length_append]; omega) (by omega)).mono ?_)
  rintro e w3 ⟨a3, c3, rfl, hO3, hx3⟩
  rw [joinL3] at hO3
  go_wp2
  go_ret
  have hE3 : Ext w w3 := (hE1.trans hx2).trans ((Ext.of_alloc _ _).trans hx3)
  exact ⟨_, _, rfl, hO3.mono (by have := (hE1.trans hx2).size; simp; omega), hE3⟩
set_option maxRecDepth 100000 in
set_option maxHeartbeats 8000000 in
theorem rcmake_any (a u v b : Option Addr) (n c nu cu nv cv nn cn : Nat) (r : Ring) (algo : Int) (up down nonce : List UInt8) (w : World) (hI : Ib w a n r) (hnc : n ≤ c) (hn : n ≤ 1000000) (hu : Sl w u nu up) (hcu : nu ≤ cu) (hv : Sl w v nv down) (hcv : nv ≤ cv) (hb : Sl w b nn nonce) (hcn : nn ≤ cn) :
    Calls Tryz.prog 6 #[.agg #[.slice a n c], .int .i64 algo, .agg #[.slice u nu cu, .slice v nv cv], .slice b nn cn] w (BytesP (makeE r algo up down nonce) w) := by
  have hval := fun W h => rckvalid_any a n c r W h hnc hn
  have hrl := hI.len
  have hul := hu.len
  have hvl := hv.len
  have hbl := hb.len
  cases hV : validR r
  · have e : makeE r algo up down nonce = ([], 3) := by unfold makeE; rw [if_pos hV]
    rw [e]
    rw [hV] at hval
    clear hul hvl hbl e
    go_enter Tryz.func6, Tryz.ntmps6
    go_wp2_with (first
      | (go_at_call 17; refine (hval _ (hI.ext (by repeat (first | (with_reducible first | exact Ext.refl _ | assumption | apply Ext.alloc | apply Ext.ext | apply Ext.drew | refine Ext.setCell ?_ ?_ _) | (focus (simp [go_sem]; done)))))).mono ?_; rintro e w1 ⟨rfl, hxq⟩; obtain ⟨xq, rfl⟩ := hxq.out; clear hxq)
      | fail)
    refine bodyPost_ret (v := .tuple #[.slice none 0 0, .int .i64 3]) (by simp [results, Tryz.results6, go_sem]) rfl ?_
    exact BytesP.err _ _ 3 (by repeat (first | (with_reducible first | exact Ext.refl _ | assumption | apply Ext.alloc | apply Ext.ext | apply Ext.drew | refine Ext.setCell ?_ ?_ _) | (focus (simp [go_sem]; done))))
  · rw [hV] at hval
    by_cases a1 : algo < 0
    · have e : makeE r algo up down nonce = ([], 4) := by unfold makeE; rw [if_neg (by rw [hV]; simp), if_pos (.inl a1)]
      rw [e]
      clear hul hvl hbl e
      go_enter Tryz.func6, Tryz.ntmps6
      go_wp2_with (first
        | (go_at_call 17; refine (hval _ (hI.ext (by repeat (first | (with_reducible first | exact Ext.refl _ | assumption | apply Ext.alloc | apply Ext.ext | apply Ext.drew | refine Ext.setCell ?_ ?_ _) | (focus (simp [go_sem]; done)))))).mono ?_; rintro e w1 ⟨rfl, hxq⟩; obtain ⟨xq, rfl⟩ := hxq.out; clear hxq)
        | fail)
      refine bodyPost_ret (v := .tuple #[.slice none 0 0, .int .i64 4]) (by simp [results, Tryz.results6, go_sem]) rfl ?_
      exact BytesP.err _ _ 4 (by repeat (first | (with_reducible first | exact Ext.refl _ | assumption | apply Ext.alloc | apply Ext.ext | apply Ext.drew | refine Ext.setCell ?_ ?_ _) | (focus (simp [go_sem]; done))))
    · by_cases a2 : 65535 < algo
      · have e : makeE r algo up down nonce = ([], 4) := by unfold makeE; rw [if_neg (by rw [hV]; simp), if_pos (.inr a2)]
        rw [e]
        clear hul hvl hbl e
        go_enter Tryz.func6, Tryz.ntmps6
        go_wp2_with (first
          | (go_at_call 17; refine (hval _ (hI.ext (by repeat (first | (with_reducible first | exact Ext.refl _ | assumption | apply Ext.alloc | apply Ext.ext | apply Ext.drew | refine Ext.setCell ?_ ?_ _) | (focus (simp [go_sem]; done)))))).mono ?_; rintro e w1 ⟨rfl, hxq⟩; obtain ⟨xq, rfl⟩ := hxq.out; clear hxq)
          | fail)
        refine bodyPost_ret (v := .tuple #[.slice none 0 0, .int .i64 4]) (by simp [results, Tryz.results6, go_sem]) rfl ?_
        exact BytesP.err _ _ 4 (by repeat (first | (with_reducible first | exact Ext.refl _ | assumption | apply Ext.alloc | apply Ext.ext | apply Ext.drew | refine Ext.setCell ?_ ?_ _) | (focus (simp [go_sem]; done))))
      · by_cases u32 : nu = 32
        · have u32i : (((nu : Nat) : Int) != 32) = false := by rw [bne_eq_false_iff_eq]; omega
          by_cases d32 : nv = 32
          · have d32i : (((nv : Nat) : Int) != 32) = false := by rw [bne_eq_false_iff_eq]; omega
            by_cases n16 : nn = 16
            · have n16i : (((nn : Nat) : Int) != 16) = false := by rw [bne_eq_false_iff_eq]; omega
              have e : makeE r algo up down nonce = (cookC (hd r) algo up down nonce, 0) := by unfold makeE; rw [if_neg (by rw [hV]; simp), if_neg (by omega), if_neg (by omega), if_neg (by omega)]
              obtain ⟨v1, v2, v3, v4⟩ := validR_iff.1 hV
              obtain ⟨x0, hx0⟩ : ∃ x, r[0]? = some x := ⟨_, List.getElem?_eq_getElem (by omega)⟩
              have hhd : hd r = x0 := by unfold hd; rw [List.getD_eq_getElem?_getD, hx0]; rfl
              obtain ⟨x1, x2, x3⟩ := v1 x0 (List.mem_of_getElem? hx0)
              rw [hhd] at e
              obtain ⟨id, ky⟩ := x0
              simp only at x1 x2 x3
              subst u32 d32 n16
              obtain ⟨b0, off, g, cg, rfl, hb0, hc0, hc1, hSd, hcd⟩ := hI.at 0 (by omega) _ hx0
              simp only at hc0 hc1 hSd hcd
              rw [x3] at hc1 hSd hcd
              have hrd := rd_two (w := w) (o := off + 0 * 2) hb0.lt hc0 hc1
              rw [Nat.zero_mul, Nat.add_zero] at hrd
              have hckl : (cookC (id, ky) algo up down nonce).length = 104 := cookC_len x1 x2 x3 hbl hul hvl
              have hsl := fun W h1 h2 h3 h4 => rcookie_any id algo g u v b cg cu cv cn ky up down nonce W x1 x2 (by omega) (by omega) h1 hcd h2 hcu h3 hcv h4 hcn
              generalize cookC (id, ky) algo up down nonce = CK at *
              rw [e]
              clear e hhd hul hvl hbl
              haveI := hb0
              go_enter Tryz.func6, Tryz.ntmps6
              go_wp2_with (first
                | (go_at_call 17; refine (hval _ (hI.ext (by repeat (first | (with_reducible first | exact Ext.refl _ | assumption | apply Ext.alloc | apply Ext.ext | apply Ext.drew | refine Ext.setCell ?_ ?_ _) | (focus (simp [go_sem]; done)))))).mono ?_; rintro e w1 ⟨rfl, hxq⟩; obtain ⟨xq, rfl⟩ := hxq.out; clear hxq)
                | fail)
              refine nameW ?_
              intro W hW
              have hEW : Ext w W := by rw [hW]; exact (by repeat (first | (with_reducible first | exact Ext.refl _ | assumption | apply Ext.alloc | apply Ext.ext | apply Ext.drew | refine Ext.setCell ?_ ?_ _) | (focus (simp [go_sem]; done))))
              have hB1 : Blk W w.heap.size 24 [.slice (some ⟨b0, off, none⟩) n c] := by rw [hW]; exact (by repeat (first | assumption | (refine Blk.newAt _ _ _ _ ?_; first | rfl | (simp only [World.size_alloc]; done)) | apply Blk.ext | apply Blk.alloc | (refine Blk.other ?_ ?_ _; rotate_left; (simp <;> omega))))
              have hB2 : Blk W (w.heap.size + 1) 32 [.slice u 32 cu, .slice v 32 cv] := by rw [hW]; exact (by repeat (first | assumption | (refine Blk.newAt _ _ _ _ ?_; first | rfl | (simp only [World.size_alloc]; done)) | apply Blk.ext | apply Blk.alloc | (refine Blk.other ?_ ?_ _; rotate_left; (simp <;> omega))))
              clear hW
              have f0 := hB1.cell? 0 rfl
              haveI := hB1.blt
              haveI := hB2.blt
              have hkW := hSd.ext hEW
              have huW := hu.ext hEW
              have hvW := hv.ext hEW
              have hbW := hb.ext hEW
              have hrdW := hrd.ext hEW
              have hn0 : 0 < n := by omega
              refine wp_region_vague 10 [[], [0], [0, 1], [0, 1, 2], [], [], [], [0, 1, 2, 3, 4, 5, 6], [0, 1, 2, 3, 4, 5, 6, 7], [0, 1, 2, 3, 4, 5, 6, 7, 8]] (by kernel_rfl) (by kernel_rfl) (by kernel_rfl) (by kernel_rfl) ?_; simp only [List.take_succ_cons, List.take_zero, List.drop_succ_cons, List.drop_zero, List.take_nil, List.drop_nil]
              (repeat (apply VD_der; (case h => (intro us w' hx hf; obtain ⟨x, rfl⟩ := hx.out; refine ⟨rfl, ?_⟩; simp [go_sem, execOp, *]; (try simp (disch := omega) only [Go.IntWalk.i64_in, Go.IntWalk.rem_in, Go.IntWalk.wrap64_in]); rfl)); (try simp only [Act.put, List.setIfInBounds_toArray, List.set_cons_succ, List.set_cons_zero])))
              (refine VD_load_arr (RM2) _ rfl (fun _ => rfl) (b0) (off) (fun _ => by simp [go_sem]) ([.int .i64 id, .slice g 32 cg]) (hrdW) (rfl) ?_)
              (repeat (apply VD_der; (case h => (intro us w' hx hf; obtain ⟨x, rfl⟩ := hx.out; refine ⟨rfl, ?_⟩; simp [go_sem, execOp, *]; (try simp (disch := omega) only [Go.IntWalk.i64_in, Go.IntWalk.rem_in, Go.IntWalk.wrap64_in]); rfl)); (try simp only [Act.put, List.setIfInBounds_toArray, List.set_cons_succ, List.set_cons_zero])))
              (refine VD_load_arr (RP2) _ rfl (fun _ => rfl) (w.heap.size + 1) (0) (fun _ => by simp [go_sem]) ([.slice u 32 cu, .slice v 32 cv]) (hB2.rd) (rfl) ?_)
              (repeat (apply VD_der; (case h => (intro us w' hx hf; obtain ⟨x, rfl⟩ := hx.out; refine ⟨rfl, ?_⟩; simp [go_sem, execOp, *]; (try simp (disch := omega) only [Go.IntWalk.i64_in, Go.IntWalk.rem_in, Go.IntWalk.wrap64_in]); rfl)); (try simp only [Act.put, List.setIfInBounds_toArray, List.set_cons_succ, List.set_cons_zero])))
              (refine VD_vag (fun p => .slice (p 0).1 (104) (p 0).2) (fun p w'' => Own w'' 0 (p 0).1 (104) (p 0).2 (CK)) (fun p w w' h hx => h.ext hx) (fun us w' hx hf => ⟨rfl, ?_⟩) ?_; (unfold gives; simp [go_sem, execOp]; exact vag_fresh (Nat.zero_le _) (hsl _ (hkW.ext hx) (huW.ext hx) (hvW.ext hx) (hbW.ext hx))))
              (repeat (apply VD_der; (case h => (intro us w' hx hf; obtain ⟨x, rfl⟩ := hx.out; refine ⟨rfl, ?_⟩; simp [go_sem, execOp, *]; (try simp (disch := omega) only [Go.IntWalk.i64_in, Go.IntWalk.rem_in, Go.IntWalk.wrap64_in]); rfl)); (try simp only [Act.put, List.setIfInBounds_toArray, List.set_cons_succ, List.set_cons_zero])))
              (refine VD_nil ?_; intro us w' hx hf; obtain ⟨x, rfl⟩ := hx.out; (try simp only [Act.put, List.setIfInBounds_toArray, List.set_cons_succ, List.set_cons_zero, wpList_none]); (try simp only [List.mem_cons, List.not_mem_nil, or_false, forall_eq_or_imp, forall_eq, List.nil_append, List.cons_append, List.mem_append, false_or, true_and, and_true] at hf); (try simp only [Nat.reduceAdd, Nat.zero_add] at hf); (try simp only [Nat.reduceAdd, Nat.zero_add]))
              go_wp2_with fail
              refine bodyPost_ret (v := .tuple #[.slice (us 7 0).1 104 (us 7 0).2, .int .i64 0]) (by simp [results, Tryz.results6, go_sem]) rfl ?_
              show ∃ a c, _ = Ending.returned (.tuple #[.slice a CK.length c, .int .i64 0]) ∧ Sl _ a CK.length CK ∧ CK.length ≤ c ∧ Ext w _
              rw [hckl]
              exact ⟨_, _, rfl, hf.sl, hf.le.1, hEW.ext x⟩
            · have e : makeE r algo up down nonce = ([], 3) := by unfold makeE; rw [if_neg (by rw [hV]; simp), if_neg (by omega), if_neg (by omega), if_pos (by omega)]
              rw [e]
              have n16i : (((nn : Nat) : Int) != 16) = true := by rw [bne_iff_ne]; omega
              clear hul hvl hbl e n16 u32 d32
              go_enter Tryz.func6, Tryz.ntmps6
              go_wp2_with (first
                | (go_at_call 17; refine (hval _ (hI.ext (by repeat (first | (with_reducible first | exact Ext.refl _ | assumption | apply Ext.alloc | apply Ext.ext | apply Ext.drew | refine Ext.setCell ?_ ?_ _) | (focus (simp [go_sem]; done)))))).mono ?_; rintro e w1 ⟨rfl, hxq⟩; obtain ⟨xq, rfl⟩ := hxq.out; clear hxq)
                | fail)
              refine bodyPost_ret (v := .tuple #[.slice none 0 0, .int .i64 3]) (by simp [results, Tryz.results6, go_sem]) rfl ?_
              exact BytesP.err _ _ 3 (by repeat (first | (with_reducible first | exact Ext.refl _ | assumption | apply Ext.alloc | apply Ext.ext | apply Ext.drew | refine Ext.setCell ?_ ?_ _) | (focus (simp [go_sem]; done))))
          · have e : makeE r algo up down nonce = ([], 5) := by unfold makeE; rw [if_neg (by rw [hV]; simp), if_neg (by omega), if_pos (by omega)]
            rw [e]
            have d32i : (((nv : Nat) : Int) != 32) = true := by rw [bne_iff_ne]; omega
            clear hul hvl hbl e u32 d32
            go_enter Tryz.func6, Tryz.ntmps6
            go_wp2_with (first
              | (go_at_call 17; refine (hval _ (hI.ext (by repeat (first | (with_reducible first | exact Ext.refl _ | assumption | apply Ext.alloc | apply Ext.ext | apply Ext.drew | refine Ext.setCell ?_ ?_ _) | (focus (simp [go_sem]; done)))))).mono ?_; rintro e w1 ⟨rfl, hxq⟩; obtain ⟨xq, rfl⟩ := hxq.out; clear hxq)
              | fail)
            refine bodyPost_ret (v := .tuple #[.slice none 0 0, .int .i64 5]) (by simp [results, Tryz.results6, go_sem]) rfl ?_
            exact BytesP.err _ _ 5 (by repeat (first | (with_reducible first | exact Ext.refl _ | assumption | apply Ext.alloc | apply Ext.ext | apply Ext.drew | refine Ext.setCell ?_ ?_ _) | (focus (simp [go_sem]; done))))
        · have e : makeE r algo up down nonce = ([], 5) := by unfold makeE; rw [if_neg (by rw [hV]; simp), if_neg (by omega), if_pos (by omega)]
          rw [e]
          have u32i : (((nu : Nat) : Int) != 32) = true := by rw [bne_iff_ne]; omega
          clear hul hvl hbl e u32
          go_enter Tryz.func6, Tryz.ntmps6
          go_wp2_with (first
            | (go_at_call 17; refine (hval _ (hI.ext (by repeat (first | (with_reducible first | exact Ext.refl _ | assumption | apply Ext.alloc | apply Ext.ext | apply Ext.drew | refine Ext.setCell ?_ ?_ _) | (focus (simp [go_sem]; done)))))).mono ?_; rintro e w1 ⟨rfl, hxq⟩; obtain ⟨xq, rfl⟩ := hxq.out; clear hxq)
            | fail)
          refine bodyPost_ret (v := .tuple #[.slice none 0 0, .int .i64 5]) (by simp [results, Tryz.results6, go_sem]) rfl ?_
          exact BytesP.err _ _ 5 (by repeat (first | (with_reducible first | exact Ext.refl _ | assumption | apply Ext.alloc | apply Ext.ext | apply Ext.drew | refine Ext.setCell ?_ ?_ _) | (focus (simp [go_sem]; done))))


set_option maxRecDepth 100000 in
set_option maxHeartbeats 4000000 in
theorem rcid_any (a : Option Addr) (n c : Nat) (l : List UInt8) (w : World) (h : Sl w a n l) (hc : n ≤ c) :
    Calls Tryz.prog 29 #[.slice a n c] w fun e w' => e = .returned (.tuple #[.int .i64 (idE l).1, .int .i64 (idE l).2]) ∧ Ext w w' := by
  have hl := h.len
  by_cases n104 : n = 104
  · subst n104
    obtain ⟨q, hq⟩ : ∃ q, getL (l.take 4) = q := ⟨_, rfl⟩
    have e := Lib.hid (show idE l = (n64 q, 0) by unfold idE idOf; rw [if_neg (by omega), hq])
    have hb := getL_lt4 (l.take 4) (by rw [List.length_take]; omega)
    rw [hq] at hb
    have hget := fun W H1 => rget_any a 4 c (l.take 4) W H1 (by omega)
    simp only [hq] at hget
    have hw : IntKind.i64.wrap (n64 q) = n64 q := by rw [IntKind.wrap_i64]; omega
    have h4 := h.take 4 (by omega)
    have k1 : (4 : Int) ≤ (c : Int) := by omega
    clear hl hq
    go_enter Tryz.func29, Tryz.ntmps29
    go_wp2_with (first
      | (go_at_call 31; refine (hget _ h4).mono ?_; rintro e w1 ⟨rfl, hxq⟩; obtain ⟨xq, rfl⟩ := hxq.out; clear hxq)
      | fail)
    refine bodyPost_ret (v := .tuple #[.int .i64 (n64 q), .int .i64 0]) (by simp [results, Tryz.results29, go_sem]) rfl ?_
    exact ⟨by rw [e.out], (by repeat (first | (with_reducible first | exact Ext.refl _ | assumption | apply Ext.alloc | apply Ext.ext | apply Ext.drew | refine Ext.setCell ?_ ?_ _) | (focus (simp [go_sem]; done))))⟩
  · have e := Lib.hid (show idE l = (0, 3) by unfold idE; rw [if_pos (by omega)])
    have hI : (((n : Nat) : Int) != 104) = true := by rw [bne_iff_ne]; omega
    clear hl n104
    go_enter Tryz.func29, Tryz.ntmps29
    go_wp2_with fail
    refine bodyPost_ret (v := .tuple #[.int .i64 0, .int .i64 3]) (by simp [results, Tryz.results29, go_sem]) rfl ?_
    exact ⟨by rw [e.out], (by repeat (first | (with_reducible first | exact Ext.refl _ | assumption | apply Ext.alloc | apply Ext.ext | apply Ext.drew | refine Ext.setCell ?_ ?_ _) | (focus (simp [go_sem]; done))))⟩
end Go.Proofs.YtbfgeokngekdmaaGreat
