/- Lemmas of this claim, several texts joined. -/
import Derived.Test.YtkjdlbjbppbmdaaZ4
import Derived.Test.YtkjdlbjbppbmdaaZ8
import Derived.Test.YtkjdlbjbppbmdaaZ9
import Derived.Test.YtkjdlbjbppbmdaaZ12
import Derived.Test.YtkjdlbjbppbmdaaZ21
set_option linter.unusedVariables false
set_option linter.unusedSimpArgs false
/- The walks of the reference's prepared key: Prepare. -/
namespace Go.Proofs.Ytkjdlbjbppbmdaa
open Go.RowKit Go.Sec Go.Oct Go.Aes BigFrame

theorem R84 : RowT Try.prog 198 688 := ⟨⟨_, Try.underlying198, rfl⟩, by kernel_rfl, ⟨_, Try.zeroValue198, by kernel_rfl⟩⟩

theorem build84 : List.foldl (fun (cs : Array Value) (x : Value × Nat) => cs.setIfInBounds (176 + x.snd) x.fst) Try.zeroCells198 (List.map u8v box).zipIdx = ((tw0 0).map u8v).toArray := by kernel_rfl
theorem conv8 (k : Nat) (h : k < 256) : (Value.int .u8 (k : Int)) = .int .u8 (n8 (UInt8.ofNat k)) := by rw [lit8 k h]

set_option maxRecDepth 100000 in
set_option maxHeartbeats 4000000 in
theorem prepare_any (a : Option Addr) (c : Nat) (ky : List UInt8) (w : World) (h : Sl w a 16 ky) :
    Calls Try.prog 175 #[.slice a 16 c] w fun e w' => e = .returned (.agg ((pre (expand ky)).map u8v).toArray) ∧ Ext w w' := by
  obtain ⟨bx, hbe⟩ : ∃ bx, Hid (bx = box) := ⟨_, Lib.hid rfl⟩
  have htab := tab_any
  have hb84 := build84
  have hbl : bx.length = 256 := by rw [hbe.out]; exact box_length
  rw [← hbe.out] at htab hb84
  clear hbe
  obtain ⟨m0, hm0⟩ : ∃ m0, Hid (m0 = tw0 0) := ⟨_, Lib.hid rfl⟩
  rw [← hm0.out] at hb84
  have hm0l : m0.length = 688 := by rw [hm0.out, tw0_length _ (by omega)]
  obtain ⟨zs, hzl, hzs⟩ : ∃ zs : List Value, zs.length = 688 ∧ zs = Try.zeroCells198.toList := ⟨_, by kernel_rfl, rfl⟩
  have hR0 := Blk.new w Try.zeroCells198 198
  rw [← hzs] at hR0
  go_enter Try.func175, Try.ntmps175
  go_wp2_with fail
  refine (htab _).mono ?_; rintro e w1 ⟨rfl, hx1⟩
  have hR1 := hR0.extB hx1
  have hx1 := (Ext.of_alloc w (.cells Try.zeroCells198 198)).trans hx1
  go_wp2_with (first
    | (refine wpList_alloc_store (R84) rfl rfl _ _ rfl rfl rfl rfl (by simp [Act.put]) (m0.map u8v) rfl (by simp) ((by simpa using hm0l)) (one_u8 _) ?_; intro x hBx _)
    | fail)
  have hx2 := hx1.ext x
  have hR2 := hR1.ext x
  have hwl := hR1.lt
  generalize w1.ext x = W at *
  generalize w1.heap.size = g at *
  clear hR1 hR0
  rw [hm0.out] at hBx
  go_loopw [4] (fun v4 wr => ∃ k : Nat, k ≤ 256 ∧ v4 = .int .i64 k ∧ Blk wr g 198 ((tw0 k).map u8v) ∧ Blk wr w.heap.size 198 zs ∧ Ext w wr) (fun v4 _ => 256 - (intOf v4).toNat)
  case atStart => exact ⟨0, by omega, rfl, hBx, hR2, hx2⟩
  case round =>
    obtain ⟨k, hk, rfl, hB, hR, hx⟩ := hrel
    by_cases hlt : k < 256
    · have hT : ∀ W, Calls Try.prog 194 #[.int .u8 (k : Int), .int .u8 2] W fun e w' => e = .returned (.int .u8 (n8 (dbl (UInt8.ofNat k)))) ∧ Ext W w' := fun W => by
        have := rtimes_any (UInt8.ofNat k) 2 W
        rw [mul_two, ← lit8 k hlt] at this
        exact this
      have HS := Lib.hid (tw0_set k hlt)
      generalize dbl (UInt8.ofNat k) = y at *
      have hk0 : (0 : Int) ≤ (k : Int) := by omega
      have hk1 : (k : Int) < 256 := by omega
      have hkw : IntKind.u8.wrap (k : Int) = (k : Int) := by rw [IntKind.wrap_u8]; omega
      go_wp2_with fail
      refine (hT _).mono ?_; rintro e w3 ⟨rfl, hx3⟩
      have hB3 := hB.extB hx3
      have hR3 := hR.extB hx3
      have hxw := hx.trans hx3
      obtain ⟨vo, hvo⟩ : ∃ v, w3.cell? ⟨g, 432 + k, none⟩ = some v := ⟨_, hB3.cell (432 + k) (by rw [List.length_map, tw0_length _ hk]; omega)⟩
      have hf := hB3.free (432 + k)
      haveI := hB3.blt
      have hB4 := hB3.set (432 + k) (u8v y)
      rw [← List.map_set, HS.out] at hB4
      have hne : w.heap.size ≠ g := by omega
      clear hT hB hR hx3 hx
      go_wp2_with fail
      go_roundw
      case rel => exact ⟨k + 1, by omega, by go_num, hB4, hR3.other (by simpa using hne) _, Ext.setCell hxw (by simp; omega) _⟩
      case measure => simp [intOf]; omega
    · obtain rfl : k = 256 := by omega
      rw [tw0_all] at hB
      have hkl := h.len
      have HK := Lib.hid (pre_key ky hkl)
      have hpl := pre_length [] (by simp)
      generalize pre [] = p0 at *
      have hS := h.ext hx
      go_wp2_with (first
        | (refine wpList_copy_blk rfl (.tmp 22) (.tmp 23) _ _ rfl 5 Try.underlying22 (by kernel_rfl) (g) (0) _ _ _ _ _ (ky) rfl rfl (198) _ (hB) (hS) (16) (by omega) ((by simp; omega)) ?_; intro w4 hB4 hM4)
        | fail)
      have hB5 : Blk w4 g 198 ((pre ky).map u8v) := by
        have e : (p0.map u8v).take 0 ++ (ky.take 16).map u8v ++ (p0.map u8v).drop (0 + 16) = (pre ky).map u8v := by
          rw [← HK.out, List.take_zero, List.nil_append, List.map_append, List.map_drop, List.take_of_length_le (by omega)]
        rw [← e]; exact hB4
      have hR4 := hR.turn hM4 (by omega)
      have hx4 : Ext w w4 := Below.trans hx (hM4.below (by omega) hx.size)
      clear hM4 hB4 hS hB hR hx HK hpl hbl hm0 hm0l
      go_loopw [5, 6, 7, 8] (fun v5 v6 _ _ wr => ∃ n : Nat, n ≤ 40 ∧ v6 = .int .i64 (4 * (n : Int) + 16) ∧ v5 = .int .u8 (n8 (con ((n + 3) / 4))) ∧ Blk wr g 198 ((pre (words ky n)).map u8v) ∧ Blk wr w.heap.size 198 zs ∧ Ext w wr) (fun _ v6 _ _ _ => 176 - (intOf v6).toNat)
      case atStart => exact ⟨0, by omega, rfl, rfl, hB5, hR4, hx4⟩
      case round =>
        obtain ⟨n, hn, rfl, rfl, hB, hR, hx⟩ := hrel
        have hwl := words_length ky n hkl
        by_cases hlt : n < 40
        · have HW := Lib.hid (word_eq (words ky n) (n + 4) (by omega) (by omega))
          have HS := Lib.hid (show words ky (n + 1) = words ky n ++ word (words ky n) (n + 4) from rfl)
          generalize words ky n = ws at *
          have c0 := hB.cell? (4 * n + 12) (v := u8v (at' ws (4 * n + 12))) (by rw [List.getElem?_map, pre_at _ _ (by omega)]; rfl)
          have c1 := hB.cell? (4 * n + 13) (v := u8v (at' ws (4 * n + 13))) (by rw [List.getElem?_map, pre_at _ _ (by omega)]; rfl)
          have c2 := hB.cell? (4 * n + 14) (v := u8v (at' ws (4 * n + 14))) (by rw [List.getElem?_map, pre_at _ _ (by omega)]; rfl)
          have c3 := hB.cell? (4 * n + 15) (v := u8v (at' ws (4 * n + 15))) (by rw [List.getElem?_map, pre_at _ _ (by omega)]; rfl)
          have b0 : (4 * (n : Int) + 16 - 4).toNat = 4 * n + 12 := by omega
          have b1 : (4 * (n : Int) + 16 - 3).toNat = 4 * n + 13 := by omega
          have b2 : (4 * (n : Int) + 16 - 2).toNat = 4 * n + 14 := by omega
          have b3 : (4 * (n : Int) + 16 - 1).toNat = 4 * n + 15 := by omega
          have d0 : (0 : Int) ≤ (n : Int) := by omega
          have d1 : (n : Int) < 40 := by omega
          have a0 : (4 : Int) ≤ 4 * (n : Int) + 16 := by omega
          have a1 : (3 : Int) ≤ 4 * (n : Int) + 16 := by omega
          have a2 : (2 : Int) ≤ 4 * (n : Int) + 16 := by omega
          have a3 : (1 : Int) ≤ 4 * (n : Int) + 16 := by omega
          have f0 : 4 * (n : Int) + 16 - 4 < 176 := by omega
          have f1 : 4 * (n : Int) + 16 - 3 < 176 := by omega
          have f2 : 4 * (n : Int) + 16 - 2 < 176 := by omega
          have f3 : 4 * (n : Int) + 16 - 1 < 176 := by omega
          haveI := hB.blt
          have hxw := hx
          go_wp2
          refine R2.wp_region_vague 22 [[], [0], [], [0, 1, 2], [0, 1, 2, 3], [], [5], [], [5, 6, 7], [5, 6, 7, 8], [], [10], [], [10, 11, 12], [10, 11, 12, 13], [], [15], [], [15, 16, 17], [15, 16, 17, 18], [0, 1, 2, 3, 4, 5, 6, 7, 8, 9, 10, 11, 12, 13, 14, 15, 16, 17, 18, 19], [], [0, 1, 2, 3, 4, 5, 6, 7, 8, 9, 10, 11, 12, 13, 14, 15, 16, 17, 18, 19, 20, 21]] (by kernel_rfl) (by kernel_rfl) (by kernel_rfl) (by kernel_rfl) ?_; simp only [List.take_succ_cons, List.take_zero, List.drop_succ_cons, List.drop_zero, List.take_nil, List.drop_nil]
          (repeat (apply R2.VD_der; (case h => (intro us w' hx hf; obtain ⟨x, rfl⟩ := hx.out; refine ⟨rfl, ?_⟩; simp [go_sem, execOp, *]; (try simp (disch := omega) only [Go.IntWalk.i64_in, Go.IntWalk.rem_in, Go.IntWalk.wrap64_in]); rfl)); (try simp only [Act.put, List.setIfInBounds_toArray, List.set_cons_succ, List.set_cons_zero])))
          (refine R2.VD_alloc _ (List.replicate 4 (u8v 0)) Try.zeroValue230 rfl rfl rfl ?_)
          (refine R2.VD_nil ?_; intro us w' hx hf hd; obtain ⟨x, rfl⟩ := hx.out; (try simp only [Act.put, List.setIfInBounds_toArray, List.set_cons_succ, List.set_cons_zero, wpList_none]); (try simp only [List.mem_cons, List.not_mem_nil, or_false, forall_eq_or_imp, forall_eq, List.nil_append, List.cons_append, List.mem_append, false_or, true_and, and_true] at hf); (try simp only [Nat.reduceAdd, Nat.zero_add] at hf); (try simp only [Nat.reduceAdd, Nat.zero_add]))
          obtain ⟨g7, e7, h7, hB7⟩ := hf
          rw [e7]
          have hxr := hxw.trans hx
          have hBr := hB.extB hx
          have hRr := hR.extB hx
          have hg7 : g < g7 := by have := hB.lt; omega
          have hw7 : w.heap.size < g7 := by omega
          clear e7 hd
          generalize wr.ext x = W2 at *
          clear hB hR hx c0 c1 c2 c3 b0 b1 b2 b3 a0 a1 a2 a3 f0 f1 f2 f3 h7
          (refine wpList_store_arr R99 rfl _ _ rfl g7 0 rfl ([at' ws (4 * n + 12), at' ws (4 * n + 13), at' ws (4 * n + 14), at' ws (4 * n + 15)].map u8v) rfl _ _ hB7 rfl (by simp) (one_u8 _) ?_; intro W3 hB8 hM8)
          have hBt : Blk W3 g7 230 ([at' ws (4 * n + 12), at' ws (4 * n + 13), at' ws (4 * n + 14), at' ws (4 * n + 15)].map u8v) := by simpa using hB8
          have hB3 := hBr.turn hM8 (by omega)
          have hR3 := hRr.turn hM8 (by omega)
          have hx3 : Ext w W3 := Below.trans hxr (hM8.below (by omega) hxr.size)
          clear hB8 hM8 hBr hRr hxr hB7
          obtain ⟨t, ht⟩ : ∃ t, Hid (t = tmp4 ws (n + 4)) := ⟨_, Lib.hid rfl⟩
          have htl : t.length = 4 := by rw [ht.out]; exact tmp4_length _ _
          obtain ⟨x1, hx1'⟩ : ∃ x1, Hid (x1 = con ((n + 3) / 4)) := ⟨_, Lib.hid rfl⟩
          rw [← hx1'.out]
          by_cases h0 : n % 4 = 0
          case' pos =>
            have hmod : ((4 * (n : Int) + 16) % 16 == 0) = true := by rw [beq_iff_eq]; omega
            have hx4 := Lib.hid (show con ((n + 1 + 3) / 4) = dbl x1 by
              rw [hx1'.out, show (n + 1 + 3) / 4 = (n + 3) / 4 + 1 by omega]; rfl)
            have ht2 := Lib.hid (show t = [sub (at' ws (4 * n + 13)) ^^^ x1, sub (at' ws (4 * n + 14)), sub (at' ws (4 * n + 15)), sub (at' ws (4 * n + 12))] by
              rw [ht.out, hx1'.out]; unfold tmp4; rw [if_pos (by omega)]
              rw [show 4 * (n + 4) - 4 = 4 * n + 12 by omega, show 4 * (n + 4) - 3 = 4 * n + 13 by omega, show 4 * (n + 4) - 2 = 4 * n + 14 by omega, show 4 * (n + 4) - 1 = 4 * n + 15 by omega, show (n + 4) / 4 - 1 = (n + 3) / 4 by omega])
            have c0 := hBt.cell? 0 rfl
            have c1 := hBt.cell? 1 rfl
            have c2 := hBt.cell? 2 rfl
            have c3 := hBt.cell? 3 rfl
            have hq : ∀ y, W3.cell? ⟨g, 176 + y.toNat, none⟩ = some (.int .u8 (n8 (sub y))) := fun y => hB3.cell? _ (by rw [List.getElem?_map, pre_box _ (by omega)]; rfl)
            have q0 := hq (at' ws (4 * n + 12))
            have q1 := hq (at' ws (4 * n + 13))
            have q2 := hq (at' ws (4 * n + 14))
            have q3 := hq (at' ws (4 * n + 15))
            clear hq
            haveI := hB3.blt
            haveI := hBt.blt
            have hT : ∀ W, Calls Try.prog 194 #[.int .u8 (n8 x1), .int .u8 2] W fun e w' => e = .returned (.int .u8 (n8 (dbl x1))) ∧ Ext W w' := fun W => by
              have := rtimes_any x1 2 W
              rw [mul_two] at this
              exact this
            generalize dbl x1 = x2 at *
            go_wp2
            refine wp_region_vague 23 [[], [0], [], [0, 1, 2], [0, 1, 2, 3], [], [0, 1, 2, 3, 4, 5], [], [7], [], [7, 8, 9], [7, 8, 9, 10], [], [12], [], [12, 13, 14], [12, 13, 14, 15], [], [17], [], [17, 18, 19], [17, 18, 19, 20], [0, 1, 2, 3, 4, 5, 6, 7, 8, 9, 10, 11, 12, 13, 14, 15, 16, 17, 18, 19, 20, 21], [0, 1, 2, 3, 4, 5, 6, 7, 8, 9, 10, 11, 12, 13, 14, 15, 16, 17, 18, 19, 20, 21, 22]] (by kernel_rfl) (by kernel_rfl) (by kernel_rfl) (by kernel_rfl) ?_; simp only [List.take_succ_cons, List.take_zero, List.drop_succ_cons, List.drop_zero, List.take_nil, List.drop_nil]
            (repeat (apply VD_der; (case h => (intro us w' hx hf; obtain ⟨x, rfl⟩ := hx.out; refine ⟨rfl, ?_⟩; simp [go_sem, execOp, *]; (try simp (disch := omega) only [Go.IntWalk.i64_in, Go.IntWalk.rem_in, Go.IntWalk.wrap64_in]); rfl)); (try simp only [Act.put, List.setIfInBounds_toArray, List.set_cons_succ, List.set_cons_zero])))
            (refine VD_nil ?_; intro us w' hx hf; obtain ⟨x, rfl⟩ := hx.out; (try simp only [Act.put, List.setIfInBounds_toArray, List.set_cons_succ, List.set_cons_zero, wpList_none]); (try simp only [List.mem_cons, List.not_mem_nil, or_false, forall_eq_or_imp, forall_eq, List.nil_append, List.cons_append, List.mem_append, false_or, true_and, and_true] at hf); (try simp only [Nat.reduceAdd, Nat.zero_add] at hf); (try simp only [Nat.reduceAdd, Nat.zero_add]))
            have hBx := hBt.ext x
            have hB9 := hB3.ext x
            have hR9 := hR3.ext x
            have hx9 := hx3.ext x
            generalize W3.ext x = W4 at *
            clear hBt hB3 hR3 hx3 c0 c1 c2 c3 q0 q1 q2 q3 hx
            (refine wpList_store_arr R99 rfl _ _ rfl g7 0 rfl ([sub (at' ws (4 * n + 13)) ^^^ x1, sub (at' ws (4 * n + 14)), sub (at' ws (4 * n + 15)), sub (at' ws (4 * n + 12))].map u8v) rfl _ _ hBx rfl (by simp) (one_u8 _) ?_; intro W5 hB8 hM8)
            have hBt : Blk W5 g7 230 (t.map u8v) := by rw [ht2.out]; simpa using hB8
            have hB3 := hB9.turn hM8 (by omega)
            have hR3 := hR9.turn hM8 (by omega)
            have hx3 : Ext w W5 := Below.trans hx9 (hM8.below (by omega) hx9.size)
            clear hB8 hM8 hB9 hR9 hx9 hBx ht2
            go_wp2_with fail
            refine (hT _).mono ?_; rintro e W6 ⟨rfl, hx6⟩
            have hBt := hBt.extB hx6
            have hB3 := hB3.extB hx6
            have hR3 := hR3.extB hx6
            have hx3 := hx3.trans hx6
            clear hT hx6
            go_wp2_with fail
            generalize W6 = W3 at *
          case' neg =>
            have hmod : ((4 * (n : Int) + 16) % 16 == 0) = false := by rw [beq_eq_false_iff_ne]; omega
            have hx4 := Lib.hid (show con ((n + 1 + 3) / 4) = x1 by
              rw [hx1'.out, show (n + 1 + 3) / 4 = (n + 3) / 4 by omega])
            have ht2 := Lib.hid (show t = [at' ws (4 * n + 12), at' ws (4 * n + 13), at' ws (4 * n + 14), at' ws (4 * n + 15)] by
              rw [ht.out]; unfold tmp4; rw [if_neg (by omega)]
              rw [show 4 * (n + 4) - 4 = 4 * n + 12 by omega, show 4 * (n + 4) - 3 = 4 * n + 13 by omega, show 4 * (n + 4) - 2 = 4 * n + 14 by omega, show 4 * (n + 4) - 1 = 4 * n + 15 by omega])
            rw [← ht2.out] at hBt
            clear ht2
            go_wp2_with fail
            generalize x1 = x2 at *
          all_goals
            have hF : ∀ r, r < 4 → Hid (wordF ws t (n + 4) r = at' ws (4 * n + r) ^^^ at' t r) := fun r hr => Lib.hid (by
              unfold wordF; rw [show 4 * (n + 4) - 16 + r = 4 * n + r by omega])
            go_loopw [8] (fun v8 wi => ∃ r : Nat, r ≤ 4 ∧ v8 = .int .i64 r ∧ Blk wi g 198 ((pre (ws ++ (List.range r).map (wordF ws t (n + 4)))).map u8v) ∧ Blk wi g7 230 (t.map u8v) ∧ Blk wi w.heap.size 198 zs ∧ Ext w wi) (fun v8 _ => 4 - (intOf v8).toNat)
            case atStart => exact ⟨0, by omega, rfl, by simpa using hB3, hBt, hR3, hx3⟩
            case round =>
              obtain ⟨r, hr, rfl, hBi, hBu, hRi, hxi⟩ := hrel
              by_cases hr4 : r < 4
              · have hFr := hF r hr4
                have hL : (ws ++ (List.range r).map (wordF ws t (n + 4))).length = 4 * n + 16 + r := by simp; omega
                have hv : at' (ws ++ (List.range r).map (wordF ws t (n + 4))) (4 * n + r) = at' ws (4 * n + r) := by
                  rw [at_get _ _ (by omega), at_get _ _ (by omega), List.getElem_append_left (by omega)]
                have c0 := hBi.cell? (4 * n + r) (v := u8v (at' ws (4 * n + r))) (by rw [List.getElem?_map, pre_at _ _ (by omega), hv]; rfl)
                have c1 := hBu.cell? r (v := u8v (at' t r)) (by rw [List.getElem?_map, at_get _ _ (by omega), List.getElem?_eq_getElem (by omega)]; rfl)
                have HS2 := Lib.hid (pre_set (ws ++ (List.range r).map (wordF ws t (n + 4))) (wordF ws t (n + 4) r) (4 * n + 16 + r) hL.symm (by omega))
                have r0 : (0 : Int) ≤ 4 * (n : Int) + (r : Int) := by omega
                have r1 : 4 * (n : Int) + (r : Int) < 176 := by omega
                have r2 : (4 * (n : Int) + (r : Int)).toNat = 4 * n + r := by omega
                have r3 : (0 : Int) ≤ 4 * (n : Int) + 16 + (r : Int) := by omega
                have r4 : 4 * (n : Int) + 16 + (r : Int) < 176 := by omega
                have r5 : (4 * (n : Int) + 16 + (r : Int)).toNat = 4 * n + 16 + r := by omega
                have r6 : (r : Int) < 4 := by omega
                have r7 : (0 : Int) ≤ (r : Int) := by omega
                haveI := hBi.blt
                haveI := hBu.blt
                clear hv hF
                have hxv := hxi
                go_wp2
                refine wp_region_vague 16 [[], [], [0, 1], [], [3], [], [3, 4, 5], [], [3, 4, 5, 6, 7], [3, 4, 5, 6, 7, 8], [], [10], [10, 11], [3, 4, 5, 6, 7, 8, 9, 10, 11, 12], [], [0, 1, 2, 3, 4, 5, 6, 7, 8, 9, 10, 11, 12, 13, 14], [0, 1, 2, 3, 4, 5, 6, 7, 8, 9, 10, 11, 12, 13, 14, 15]] (by kernel_rfl) (by kernel_rfl) (by kernel_rfl) (by kernel_rfl) ?_; simp only [List.take_succ_cons, List.take_zero, List.drop_succ_cons, List.drop_zero, List.take_nil, List.drop_nil]
                (repeat (apply VD_der; (case h => (intro us w' hx hf; obtain ⟨x, rfl⟩ := hx.out; refine ⟨rfl, ?_⟩; simp [go_sem, execOp, *]; (try simp (disch := omega) only [Go.IntWalk.i64_in, Go.IntWalk.rem_in, Go.IntWalk.wrap64_in]); rfl)); (try simp only [Act.put, List.setIfInBounds_toArray, List.set_cons_succ, List.set_cons_zero])))
                (refine VD_nil ?_; intro us w' hx hf; obtain ⟨x, rfl⟩ := hx.out; (try simp only [Act.put, List.setIfInBounds_toArray, List.set_cons_succ, List.set_cons_zero, wpList_none]); (try simp only [List.mem_cons, List.not_mem_nil, or_false, forall_eq_or_imp, forall_eq, List.nil_append, List.cons_append, List.mem_append, false_or, true_and, and_true] at hf); (try simp only [Nat.reduceAdd, Nat.zero_add] at hf); (try simp only [Nat.reduceAdd, Nat.zero_add]))
                have hBj := hBi.ext x
                have hBv := hBu.ext x
                have hRj := hRi.ext x
                have hxj := hxv.ext x
                generalize wr.ext x = W7 at *
                clear hBi hBu hRi hx c0 c1
                obtain ⟨vo, hvo⟩ : ∃ v, W7.cell? ⟨g, 4 * n + 16 + r, none⟩ = some v := ⟨_, hBj.cell (4 * n + 16 + r) (by rw [List.length_map, pre_length _ (by omega)]; omega)⟩
                have hf := hBj.free (4 * n + 16 + r)
                haveI := hBj.blt
                have hBk := hBj.set (4 * n + 16 + r) (u8v (wordF ws t (n + 4) r))
                rw [← List.map_set, HS2.out, hFr.out, ← hFr.out, List.append_assoc, show (List.range r).map (wordF ws t (n + 4)) ++ [wordF ws t (n + 4) r] = (List.range (r + 1)).map (wordF ws t (n + 4)) by rw [List.range_succ, List.map_append]; rfl, hFr.out] at hBk
                go_wp2_with fail
                go_roundw
                case rel => exact ⟨r + 1, by omega, by go_num, hBk, hBv.other (by simp; omega) _, hRj.other (by simp; omega) _, Ext.setCell hxj (by simp; omega) _⟩
                case measure => simp [intOf]; omega
              · obtain rfl : r = 4 := by omega
                clear hF
                rw [ht.out, ← HW.out, ← HS.out] at hBi
                go_wp2_with fail
                go_roundw
                case rel => exact ⟨n + 1, by omega, by go_num, by rw [hx4.out], hBi, hRi, hxi⟩
                case measure => simp [intOf]; omega
        · obtain rfl : n = 40 := by omega
          have HE := Lib.hid (show expand ky = words ky 40 from rfl)
          have hpl := pre_length (words ky 40) (by omega)
          rw [← HE.out] at hB hpl
          obtain ⟨pf, hpf⟩ : ∃ pf, Hid (pf = pre (expand ky)) := ⟨_, Lib.hid rfl⟩
          rw [← hpf.out] at hB hpl
          clear HE
          haveI := hB.blt
          have hzd : zs.drop 688 = [] := List.drop_eq_nil_of_le (by omega)
          go_wp2_with (first
            | (refine wpList_load_arr (R84) rfl _ rfl (g) (0) rfl (pf.map u8v) (hB.rd) ((by simpa using hpl)) ?_)
            | (refine wpList_store_arr R84 rfl _ _ rfl (w.heap.size) 0 rfl (pf.map u8v) rfl _ _ hR (by simpa using hpl) (by omega) (one_u8 _) ?_; intro ws hBs hM)
            | fail)
          have hBf : Blk ws w.heap.size 198 (pf.map u8v) := by simpa [hpl, hzd] using hBs
          refine bodyPost_ret (results_arr Try.results175 (R84) _ _ (w.heap.size) (0) (pf.map u8v) rfl (hBf.rd) ((by simpa using hpl))) rfl ?_
          exact ⟨by rw [hpf.out], Below.trans hx (hM.below (Nat.le_refl _) hx.size)⟩
end Go.Proofs.Ytkjdlbjbppbmdaa
