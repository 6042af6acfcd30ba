/- Lemmas of this claim, several texts joined. -/
import Derived.Test.YtkjdlbjbppbmdaaZ6
import Derived.Test.YtkjdlbjbppbmdaaZ32
set_option linter.unusedVariables false
set_option linter.unusedSimpArgs false
/- Layer 20: the law ChannelOrder. -/
namespace Go.Proofs.Ytkjdlbjbppbmdaa
open Go.RowKit Go.Sec Go.Oct Go.Sha Go.Aes Go.Chan BigFrame

theorem natMod (v : Int) (m : Nat) (hm : 0 < m) : ∃ s : Nat, s < m ∧ v % (m : Int) = (s : Int) :=
  ⟨(v % (m : Int)).toNat, by have := Int.emod_nonneg v (show (m : Int) ≠ 0 by omega); have := Int.emod_lt_of_pos v (show 0 < (m : Int) by omega); omega, by have := Int.emod_nonneg v (show (m : Int) ≠ 0 by omega); omega⟩
def oneS : List UInt8 := [111, 110, 101]
def twoS : List UInt8 := [116, 119, 111]
theorem order_pure (S : List UInt8) (hS : S.length = 32) : ∃ r1 r2 : List UInt8, r1.length = 22 ∧ r2.length = 22 ∧ sendE (keyed true S 0 0) 1 oneS = (keyed true S 1 0, r1, 0) ∧ sendE (keyed true S 1 0) 1 twoS = (keyed true S 2 0, r2, 0) ∧
    recvE (keyed false S 0 0) r1 = (keyed false S 0 1, 1, oneS, 0) := by
  refine ⟨recC (keyed true S 0 0) 1 oneS, recC (keyed true S 1 0) 1 twoS, ?_, ?_, ?_, ?_, ?_⟩
  · rw [recC_length (keyed_snd _ _ _ _) _ _ (by decide)]; rfl
  · rw [recC_length (keyed_snd _ _ _ _) _ _ (by decide)]; rfl
  · exact sendE_ok (fit_keyed.2 (by omega)) (by omega) (by omega) (by omega) (by decide)
  · exact sendE_ok (fit_keyed.2 (by omega)) (by omega) (by omega) (by omega) (by decide)
  · exact recv_send (cl := true) (fit_keyed.2 (by omega)) (by omega) (by omega) (by omega) (by decide)
set_option maxRecDepth 100000 in
set_option maxHeartbeats 8000000 in
theorem channelOrder_walk (seed what at' by' : Int) (w : World) :
    Calls Try.prog 3 #[.int .i64 seed, .int .i64 what, .int .i64 at', .int .i64 by'] w fun e w' => e = .returned (.bool true) ∧ Ext w w' := by
  obtain ⟨s, hs1, hs⟩ := natMod seed 1000 (by omega)
  simp only [Int.cast_ofNat_Int] at hs
  have HS := Lib.hid hs
  have hwh : what % 4 = 0 ∨ what % 4 = 1 ∨ what % 4 = 2 ∨ what % 4 = 3 := by omega
  clear hs
  have hends := fun W => ends_any s rfl W (by omega)
  obtain ⟨S, hS⟩ : ∃ S, endS s = S := ⟨_, rfl⟩
  have hSl : S.length = 32 := by rw [← hS]; exact endS_length s
  rw [hS] at hends
  obtain ⟨r1, r2, hr1, hr2, e1, e2, e3⟩ := order_pure S hSl
  have hs1' : ∀ v W, ChR W v (keyed true S 0 0) → Calls Try.prog 21 #[v, .string ⟨#[111, 110, 101]⟩] W (SendP (sendE (keyed true S 0 0) 1 oneS) W) := fun v W h => send20_any v (keyed true S 0 0) oneS W h (show S.length ≤ 1000000 by omega) (by decide)
  have hs2' : ∀ v W, ChR W v (keyed true S 1 0) → Calls Try.prog 21 #[v, .string ⟨#[116, 119, 111]⟩] W (SendP (sendE (keyed true S 1 0) 1 twoS) W) := fun v W h => send20_any v (keyed true S 1 0) twoS W h (show S.length ≤ 1000000 by omega) (by decide)
  rw [e1] at hs1'
  rw [e2] at hs2'
  have hre := fun v a c W h1 h2 h3 => recv_any v (keyed false S 0 0) a 22 c r1 W h1 (show S.length ≤ 1000000 by omega) h2 h3 (by omega)
  rw [e3] at hre
  clear e1 e2 e3 hS
  go_enter Try.func3, Try.ntmps3
  go_wp2_with fail; (with_reducible refine (within_any seed 1000 _ (by omega) (by omega)).mono ?_); rintro e w1 ⟨rfl, hxq⟩; obtain ⟨xq, rfl⟩ := hxq.out; clear hxq
  rw [HS.out]
  go_wp2_with fail
  refine (hends _).mono ?_
  rintro e w1 ⟨v1, v2, rfl, hv1, hv2, hx1⟩
  obtain ⟨p1, rfl, q1⟩ := hv1.cells
  obtain ⟨p2, rfl, q2⟩ := hv2.cells
  have hEW : Ext w w1 := (Ext.of_ext w xq).trans hx1
  clear hx1 hends hv1 hv2
  have hA0 : Blk ((w1.alloc (.cells #[.bool false, .slice none 0 0, .slice none 0 0, .slice none 0 0, .int .i64 0, .int .i64 0] 24)).alloc (.cells #[.bool false, .slice none 0 0, .slice none 0 0, .slice none 0 0, .int .i64 0, .int .i64 0] 24)) w1.heap.size 24 zeroCells := (Blk.new w1 #[.bool false, .slice none 0 0, .slice none 0 0, .slice none 0 0, .int .i64 0, .int .i64 0] 24).alloc _
  have hB0 : Blk ((w1.alloc (.cells #[.bool false, .slice none 0 0, .slice none 0 0, .slice none 0 0, .int .i64 0, .int .i64 0] 24)).alloc (.cells #[.bool false, .slice none 0 0, .slice none 0 0, .slice none 0 0, .int .i64 0, .int .i64 0] 24)) (w1.heap.size + 1) 24 zeroCells := Blk.newAt _ #[.bool false, .slice none 0 0, .slice none 0 0, .slice none 0 0, .int .i64 0, .int .i64 0] 24 (w1.heap.size + 1) (by simp)
  have hx0 : Ext w1 ((w1.alloc (.cells #[.bool false, .slice none 0 0, .slice none 0 0, .slice none 0 0, .int .i64 0, .int .i64 0] 24)).alloc (.cells #[.bool false, .slice none 0 0, .slice none 0 0, .slice none 0 0, .int .i64 0, .int .i64 0] 24)) := (Ext.of_alloc _ _).alloc _
  have q1 := q1.ext hx0
  have q2 := q2.ext hx0
  haveI := hA0.blt
  haveI := hB0.blt
  go_wp2_with (first
    | (refine wpList_store_arr (RC6) rfl _ _ rfl (w1.heap.size) (0) rfl (chCells (keyed true S 0 0) p1) rfl (24) _ (hA0) (rfl) (by simp) (chCells_one _ _) ?_; intro w2 hA2 hM2); (have hB2 := Blk.turn hM2 hB0 (by omega))
    | (refine wpList_store_arr (RC6) rfl _ _ rfl (w1.heap.size + 1) (0) rfl (chCells (keyed false S 0 0) p2) rfl (24) _ (hB2) (rfl) (by simp) (chCells_one _ _) ?_; intro w3 hB3 hM3); (have hA3 := Blk.turn hM3 hA2 (by omega))
    | (refine wpList_load_arr (RC6) rfl _ rfl (w1.heap.size) (0) rfl (chCells (keyed true S 0 0) p1) ((hA3.rd)) (rfl) ?_)
    | fail)
  have q1 := (q1.mut hA0 zeroCells_no hM2).mut hB2 zeroCells_no hM3
  have q2 := (q2.mut hA0 zeroCells_no hM2).mut hB2 zeroCells_no hM3
  have hA : ChB 24 (keyed true S 0 0) p1 w1.heap.size w3 := ⟨hA3, q1⟩
  have hB : ChB 24 (keyed false S 0 0) p2 (w1.heap.size + 1) w3 := ⟨hB3, q2⟩
  have hE0 := hEW.trans hx0
  have hE2 : Ext w w2 := Below.trans hE0 (hM2.below hEW.size hE0.size)
  have hE3 : Ext w w3 := Below.trans hE2 (hM3.below (by have := hEW.size; omega) hE2.size)
  have hsz := hEW.size
  clear hA0 hB0 hx0 q1 q2 hM2 hM3 hA2 hB2 hA3 hB3 hEW hE0 hE2
  (with_reducible refine (hs1' _ _ hA.q.chr).mono ?_)
  rintro e w4 ⟨v, a1, c1, rfl, hv, hS1, hc1, hx4⟩
  obtain ⟨p1, rfl, q1⟩ := hv.cells
  rw [hr1] at hS1 hc1
  have hA := hA.ext hx4
  have hB := hB.ext hx4
  have hE4 := hE3.trans hx4
  clear hx4 hv hs1' hE3
  haveI := hA.blk.blt
  simp only [hr1]
  go_wp2_with (first
    | (refine wpList_store_arr (RC6) rfl _ _ rfl (w1.heap.size) (0) rfl (chCells (keyed true S 1 0) p1) rfl (24) _ (hA.blk) (rfl) (by simp) (chCells_one _ _) ?_; intro w5 hA5 hM5)
    | (refine wpList_load_arr (RC6) rfl _ rfl (w1.heap.size) (0) rfl (chCells (keyed true S 1 0) p1) ((hA5.rd)) (rfl) ?_)
    | fail)
  have hB := hB.mut hA.blk (chCells_no _ _) hM5 (by omega)
  have hS1 := Sl.mut hS1 hA.blk (chCells_no _ _) hM5
  have hA : ChB 24 (keyed true S 1 0) p1 w1.heap.size w5 := ⟨hA5, q1.mut hA.blk (chCells_no _ _) hM5⟩
  have hE5 : Ext w w5 := Below.trans hE4 (hM5.below hsz hE4.size)
  clear hM5 hA5 hE4 q1
  (with_reducible refine (hs2' _ _ hA.q.chr).mono ?_)
  rintro e w6 ⟨v, a2, c2, rfl, hv, hS2, hc2, hx6⟩
  obtain ⟨p1, rfl, q1⟩ := hv.cells
  rw [hr2] at hS2 hc2
  have hA := hA.ext hx6
  have hB := hB.ext hx6
  have hS1 := hS1.ext hx6
  have hE6 := hE5.trans hx6
  clear hx6 hv hs2' hE5
  haveI := hA.blk.blt
  simp only [hr2]
  go_wp2_with (first
    | (refine wpList_store_arr (RC6) rfl _ _ rfl (w1.heap.size) (0) rfl (chCells (keyed true S 2 0) p1) rfl (24) _ (hA.blk) (rfl) (by simp) (chCells_one _ _) ?_; intro w7 hA7 hM7); (have hB7 := Blk.turn hM7 hB.blk (by omega))
    | (refine wpList_load_arr (RC6) rfl _ rfl (w1.heap.size + 1) (0) rfl (chCells (keyed false S 0 0) p2) ((hB7.rd)) (rfl) ?_)
    | (refine wpList_alloc_store (RC6) rfl rfl _ _ rfl rfl rfl rfl (by simp [Act.put]) (chCells (keyed false S 0 0) p2) rfl (by simp) (rfl) ((chCells_one _ _)) ?_; intro x hC7 _)
    | fail)
  have hA7 : ChB 24 (keyed true S 2 0) p1 w1.heap.size w7 := ⟨hA7, q1.mut hA.blk (chCells_no _ _) hM7⟩
  have hB := hB.mut hA.blk (chCells_no _ _) hM7 (by omega)
  have hS1 := Sl.mut hS1 hA.blk (chCells_no _ _) hM7
  have hS2 := Sl.mut hS2 hA.blk (chCells_no _ _) hM7
  have hE7 : Ext w w7 := Below.trans hE6 (hM7.below hsz hE6.size)
  have hx7 := Ext.of_ext w7 x
  have hz7 := hE7.size
  refine (within_any what 4 _ (by omega) (by omega)).mono ?_
  rintro e w8 ⟨rfl, hx8⟩
  have hx8 := hx7.trans hx8
  have hC : ChB 24 (keyed false S 0 0) p2 w7.heap.size w8 := ⟨hC7.extB (by assumption), hB.q.ext hx8⟩
  have hA := hA7.ext hx8
  have hB := hB.ext hx8
  have hS1 := hS1.ext hx8
  have hS2 := hS2.ext hx8
  have hE8 := hE7.trans hx8
  clear hx8 hx7 hE7 hM7 hB7 hA7 hE6 q1 hC7
  rcases hwh with hw | hw | hw | hw
  all_goals
    rw [hw]
    clear hw
  · clear hs1
    go_wp2_with (first
      | (refine wpList_load_arr (RC6) rfl _ rfl (w1.heap.size + 1) (0) rfl (chCells (keyed false S 0 0) p2) ((hB.blk.rd)) (rfl) ?_)
      | fail)
    (with_reducible refine (hre _ _ _ _ hB.q.chr hS1 hc1).mono ?_)
    rintro e w9 ⟨v, b3, d3, rfl, hv, hS3, hd3, hx9⟩
    obtain ⟨p3, rfl, q3⟩ := hv.cells
    have hC := hC.ext hx9
    have hS1 := hS1.ext hx9
    have hE9 := hE8.trans hx9
    clear hx9 hv hre
    haveI := hC.blk.blt
    have hlt9 := hC.blk.lt
    go_wp2_with (first
      | (refine wpList_alloc_store (RC6) rfl rfl _ _ rfl rfl rfl rfl (by simp [Act.put]) (chCells (keyed false S 0 1) p3) rfl (by simp) (rfl) ((chCells_one _ _)) ?_; intro x hN _)
      | (refine wpList_load_arr (RC6) rfl _ rfl (w9.heap.size) (0) rfl (chCells (keyed false S 0 1) p3) ((hN.rd)) (rfl) ?_)
      | (refine wpList_store_arr (RC6) rfl _ _ rfl (w7.heap.size) (0) rfl (chCells (keyed false S 0 1) p3) rfl (24) _ ((hC.blk.extB (Ext.of_ext w9 x))) (rfl) (by simp) (chCells_one _ _) ?_; intro y0 hC9 hM9)
      | (refine wpList_load_arr (RC6) rfl _ rfl (w7.heap.size) (0) rfl (chCells (keyed false S 0 1) p3) ((hC9.rd)) (rfl) ?_)
      | fail)
    have hC0 := hC.blk.extB (Ext.of_ext w9 x)
    have hE0 := hE9.trans (Ext.of_ext w9 x)
    have hC9 : ChB 24 (keyed false S 0 1) p3 w7.heap.size y0 := ⟨hC9, (q3.ext (Ext.of_ext w9 x)).mut hC0 (chCells_no _ _) hM9⟩
    have hS1 := Sl.mut (hS1.ext (Ext.of_ext w9 x)) hC0 (chCells_no _ _) hM9
    have hE9 : Ext w y0 := Below.trans hE0 (hM9.below hz7 hE0.size)
    clear hM9 hC0 hE0 hN hC q3
    have hp := fun v W h1 h2 => recv_any v (keyed false S 0 1) a1 22 c1 (r1) W h1 (show S.length ≤ 1000000 by omega) h2 hc1 (by omega)
    have hq := fun v W h1 h2 => rrecv_any v (keyed false S 0 1) a1 22 c1 (r1) W h1 (show S.length ≤ 1000000 by omega) h2 hc1 (by omega)
    generalize recvE (keyed false S 0 1) (r1) = RR at *
    (with_reducible refine (hp _ _ hC9.q.chr hS1).mono ?_)
    rintro e y1 ⟨v, b1, d1, rfl, hv, hT1, hd1, hxx1⟩
    obtain ⟨pn, rfl, qn⟩ := hv.cells
    have hC9 := hC9.ext hxx1
    have hS1 := hS1.ext hxx1
    have hE9 := hE9.trans hxx1
    clear hxx1 hv hp
    go_wp2_with (first
      | (refine wpList_alloc_store (RC6) rfl rfl _ _ rfl rfl rfl rfl (by simp [Act.put]) (chCells RR.1 pn) rfl (by simp) (rfl) ((chCells_one _ _)) ?_; intro x hN _)
      | (refine wpList_load_arr (RC6) rfl _ rfl (w7.heap.size) (0) rfl (chCells (keyed false S 0 1) p3) (((hC9.blk.extB (Ext.of_ext _ _)).rd)) (rfl) ?_)
      | fail)
    obtain ⟨Y, hY⟩ : ∃ Y, Y = y1.ext x := ⟨_, rfl⟩
    have hxx : Ext y1 Y := by rw [hY]; exact Ext.of_ext _ _
    rw [← hY] at hN ⊢
    have hN : ChB 24 RR.1 pn y1.heap.size Y := ⟨hN, qn.ext hxx⟩
    have hC9 := hC9.ext hxx
    have hS1 := hS1.ext hxx
    have hT1 := hT1.ext hxx
    have hE9 := hE9.trans hxx
    clear hxx hY qn
    (with_reducible refine (hq _ _ hC9.q.chr hS1).mono ?_)
    rintro e y2 ⟨v, b2, d2, rfl, hv, hT2, hd2, hxx2⟩
    obtain ⟨pm, rfl, qm⟩ := hv.cells
    have hN := hN.ext hxx2
    have hT1 := hT1.ext hxx2
    have hE9 := hE9.trans hxx2
    clear hxx2 hv hq hC9 hS1
    have hN1 := hN.q.chr
    have hN2 := qm.chr
    have hsm := fun W h1 h2 => same_any b1 b2 RR.2.2.1.length d1 RR.2.2.1.length d2 RR.2.2.1 RR.2.2.1 W h1 h2
    simp only [beq_self_eq_true] at hsm
    have hkn := fun W => known20_any W
    have hcs := fun u v W h1 h2 => chsame_any u v RR.1 W h1 h2
    go_wp2_with (first
      | (refine wpList_alloc_store (RC6) rfl rfl _ _ rfl rfl rfl rfl (by simp [Act.put]) (chCells RR.1 pm) rfl (by simp) (rfl) ((chCells_one _ _)) ?_; intro x hM _)
      | (go_at_call 25; refine (hkn _).mono ?_; rintro e w1 ⟨rfl, hxq⟩; obtain ⟨xq, rfl⟩ := hxq.out; clear hxq)
      | (go_at_call 26; (with_reducible refine (hsm ?_ ?hq237 ?hq238).mono ?_); (case hq237 => (repeat' (first | with_reducible assumption | (with_reducible exact zeros16 _) | (with_reducible exact sl_new1 _ _ _) | (with_reducible first | apply Sl.upE | apply Sl.upA | apply Sl.upD)))); (case hq238 => (repeat' (first | with_reducible assumption | (with_reducible exact zeros16 _) | (with_reducible exact sl_new1 _ _ _) | (with_reducible first | apply Sl.upE | apply Sl.upA | apply Sl.upD)))); rintro e w1 ⟨rfl, hxq⟩; obtain ⟨xq, rfl⟩ := hxq.out; clear hxq)
      | (go_at_call 27; (with_reducible refine (hcs ?_ ?_ ?_ ?hq239 ?hq240).mono ?_); (case hq239 => (repeat' (first | with_reducible assumption | (with_reducible first | apply ChR.upE | apply ChR.upA | apply ChR.upD)))); (case hq240 => (repeat' (first | with_reducible assumption | (with_reducible first | apply ChR.upE | apply ChR.upA | apply ChR.upD)))); rintro e w1 ⟨rfl, hxq⟩; obtain ⟨xq, rfl⟩ := hxq.out; clear hxq)
      | (refine wpList_wanted (by simp [Region.wanted, yielded, Act.put]) ?_; (refine wpList_load_arr (RC6) rfl _ rfl (y1.heap.size) (0) rfl (chCells RR.1 pn) (((hN.blk.extB (by repeat (first | (with_reducible first | exact Ext.refl _ | assumption | apply Ext.alloc | apply Ext.ext | apply Ext.drew | refine Ext.setCell ?_ ?_ _) | (focus (simp [go_sem]; done))))).rd)) (rfl) ?_))
      | (refine wpList_wanted (by simp [Region.wanted, yielded, Act.put]) ?_; (refine wpList_load_arr (RC6) rfl _ rfl (y2.heap.size) (0) rfl (chCells RR.1 pm) (((hM.extB (by repeat (first | (with_reducible first | exact Ext.refl _ | assumption | apply Ext.alloc | apply Ext.ext | apply Ext.drew | refine Ext.setCell ?_ ?_ _) | (focus (simp [go_sem]; done))))).rd)) (rfl) ?_))
      | fail)
    go_ret
    exact ⟨rfl, hE9.trans (by repeat (first | (with_reducible first | exact Ext.refl _ | assumption | apply Ext.alloc | apply Ext.ext | apply Ext.drew | refine Ext.setCell ?_ ?_ _) | (focus (simp [go_sem]; done))))⟩
  · go_wp2_with (first
      | (refine wpList_load_arr (RC6) rfl _ rfl (w7.heap.size) (0) rfl (chCells (keyed false S 0 0) p2) ((hC.blk.rd)) (rfl) ?_)
      | fail)
    have hp := fun v W h1 h2 => recv_any v (keyed false S 0 0) a2 22 c2 (r2) W h1 (show S.length ≤ 1000000 by omega) h2 hc2 (by omega)
    have hq := fun v W h1 h2 => rrecv_any v (keyed false S 0 0) a2 22 c2 (r2) W h1 (show S.length ≤ 1000000 by omega) h2 hc2 (by omega)
    generalize recvE (keyed false S 0 0) (r2) = RR at *
    (with_reducible refine (hp _ _ hC.q.chr hS2).mono ?_)
    rintro e y1 ⟨v, b1, d1, rfl, hv, hT1, hd1, hxx1⟩
    obtain ⟨pn, rfl, qn⟩ := hv.cells
    have hC := hC.ext hxx1
    have hS2 := hS2.ext hxx1
    have hE8 := hE8.trans hxx1
    clear hxx1 hv hp
    go_wp2_with (first
      | (refine wpList_alloc_store (RC6) rfl rfl _ _ rfl rfl rfl rfl (by simp [Act.put]) (chCells RR.1 pn) rfl (by simp) (rfl) ((chCells_one _ _)) ?_; intro x hN _)
      | (refine wpList_load_arr (RC6) rfl _ rfl (w7.heap.size) (0) rfl (chCells (keyed false S 0 0) p2) (((hC.blk.extB (Ext.of_ext _ _)).rd)) (rfl) ?_)
      | fail)
    obtain ⟨Y, hY⟩ : ∃ Y, Y = y1.ext x := ⟨_, rfl⟩
    have hxx : Ext y1 Y := by rw [hY]; exact Ext.of_ext _ _
    rw [← hY] at hN ⊢
    have hN : ChB 24 RR.1 pn y1.heap.size Y := ⟨hN, qn.ext hxx⟩
    have hC := hC.ext hxx
    have hS2 := hS2.ext hxx
    have hT1 := hT1.ext hxx
    have hE8 := hE8.trans hxx
    clear hxx hY qn
    (with_reducible refine (hq _ _ hC.q.chr hS2).mono ?_)
    rintro e y2 ⟨v, b2, d2, rfl, hv, hT2, hd2, hxx2⟩
    obtain ⟨pm, rfl, qm⟩ := hv.cells
    have hN := hN.ext hxx2
    have hT1 := hT1.ext hxx2
    have hE8 := hE8.trans hxx2
    clear hxx2 hv hq hC hS2
    have hN1 := hN.q.chr
    have hN2 := qm.chr
    have hsm := fun W h1 h2 => same_any b1 b2 RR.2.2.1.length d1 RR.2.2.1.length d2 RR.2.2.1 RR.2.2.1 W h1 h2
    simp only [beq_self_eq_true] at hsm
    have hkn := fun W => known20_any W
    have hcs := fun u v W h1 h2 => chsame_any u v RR.1 W h1 h2
    go_wp2_with (first
      | (refine wpList_alloc_store (RC6) rfl rfl _ _ rfl rfl rfl rfl (by simp [Act.put]) (chCells RR.1 pm) rfl (by simp) (rfl) ((chCells_one _ _)) ?_; intro x hM _)
      | (go_at_call 25; refine (hkn _).mono ?_; rintro e w1 ⟨rfl, hxq⟩; obtain ⟨xq, rfl⟩ := hxq.out; clear hxq)
      | (go_at_call 26; (with_reducible refine (hsm ?_ ?hq241 ?hq242).mono ?_); (case hq241 => (repeat' (first | with_reducible assumption | (with_reducible exact zeros16 _) | (with_reducible exact sl_new1 _ _ _) | (with_reducible first | apply Sl.upE | apply Sl.upA | apply Sl.upD)))); (case hq242 => (repeat' (first | with_reducible assumption | (with_reducible exact zeros16 _) | (with_reducible exact sl_new1 _ _ _) | (with_reducible first | apply Sl.upE | apply Sl.upA | apply Sl.upD)))); rintro e w1 ⟨rfl, hxq⟩; obtain ⟨xq, rfl⟩ := hxq.out; clear hxq)
      | (go_at_call 27; (with_reducible refine (hcs ?_ ?_ ?_ ?hq243 ?hq244).mono ?_); (case hq243 => (repeat' (first | with_reducible assumption | (with_reducible first | apply ChR.upE | apply ChR.upA | apply ChR.upD)))); (case hq244 => (repeat' (first | with_reducible assumption | (with_reducible first | apply ChR.upE | apply ChR.upA | apply ChR.upD)))); rintro e w1 ⟨rfl, hxq⟩; obtain ⟨xq, rfl⟩ := hxq.out; clear hxq)
      | (refine wpList_wanted (by simp [Region.wanted, yielded, Act.put]) ?_; (refine wpList_load_arr (RC6) rfl _ rfl (y1.heap.size) (0) rfl (chCells RR.1 pn) (((hN.blk.extB (by repeat (first | (with_reducible first | exact Ext.refl _ | assumption | apply Ext.alloc | apply Ext.ext | apply Ext.drew | refine Ext.setCell ?_ ?_ _) | (focus (simp [go_sem]; done))))).rd)) (rfl) ?_))
      | (refine wpList_wanted (by simp [Region.wanted, yielded, Act.put]) ?_; (refine wpList_load_arr (RC6) rfl _ rfl (y2.heap.size) (0) rfl (chCells RR.1 pm) (((hM.extB (by repeat (first | (with_reducible first | exact Ext.refl _ | assumption | apply Ext.alloc | apply Ext.ext | apply Ext.drew | refine Ext.setCell ?_ ?_ _) | (focus (simp [go_sem]; done))))).rd)) (rfl) ?_))
      | fail)
    go_ret
    exact ⟨rfl, hE8.trans (by repeat (first | (with_reducible first | exact Ext.refl _ | assumption | apply Ext.alloc | apply Ext.ext | apply Ext.drew | refine Ext.setCell ?_ ?_ _) | (focus (simp [go_sem]; done))))⟩
  · haveI := hC.blk.blt
    go_wp2_with (first
      | (refine wpList_load_arr (RC6) rfl _ rfl (w1.heap.size) (0) rfl (chCells (keyed true S 2 0) p1) ((hA.blk.rd)) (rfl) ?_)
      | (refine wpList_store_arr (RC6) rfl _ _ rfl (w7.heap.size) (0) rfl (chCells (keyed true S 2 0) p1) rfl (24) _ (hC.blk) (rfl) (by simp) (chCells_one _ _) ?_; intro w9 hC9 hM9)
      | (refine wpList_load_arr (RC6) rfl _ rfl (w7.heap.size) (0) rfl (chCells (keyed true S 2 0) p1) ((hC9.rd)) (rfl) ?_)
      | fail)
    have hC9 : ChB 24 (keyed true S 2 0) p1 w7.heap.size w9 := ⟨hC9, hA.q.mut hC.blk (chCells_no _ _) hM9⟩
    have hS1 := Sl.mut hS1 hC.blk (chCells_no _ _) hM9
    have hE9 : Ext w w9 := Below.trans hE8 (hM9.below hz7 hE8.size)
    have hp := fun v W h1 h2 => recv_any v (keyed true S 2 0) a1 22 c1 (r1) W h1 (show S.length ≤ 1000000 by omega) h2 hc1 (by omega)
    have hq := fun v W h1 h2 => rrecv_any v (keyed true S 2 0) a1 22 c1 (r1) W h1 (show S.length ≤ 1000000 by omega) h2 hc1 (by omega)
    generalize recvE (keyed true S 2 0) (r1) = RR at *
    (with_reducible refine (hp _ _ hC9.q.chr hS1).mono ?_)
    rintro e y1 ⟨v, b1, d1, rfl, hv, hT1, hd1, hxx1⟩
    obtain ⟨pn, rfl, qn⟩ := hv.cells
    have hC9 := hC9.ext hxx1
    have hS1 := hS1.ext hxx1
    have hE9 := hE9.trans hxx1
    clear hxx1 hv hp
    go_wp2_with (first
      | (refine wpList_alloc_store (RC6) rfl rfl _ _ rfl rfl rfl rfl (by simp [Act.put]) (chCells RR.1 pn) rfl (by simp) (rfl) ((chCells_one _ _)) ?_; intro x hN _)
      | (refine wpList_load_arr (RC6) rfl _ rfl (w7.heap.size) (0) rfl (chCells (keyed true S 2 0) p1) (((hC9.blk.extB (Ext.of_ext _ _)).rd)) (rfl) ?_)
      | fail)
    obtain ⟨Y, hY⟩ : ∃ Y, Y = y1.ext x := ⟨_, rfl⟩
    have hxx : Ext y1 Y := by rw [hY]; exact Ext.of_ext _ _
    rw [← hY] at hN ⊢
    have hN : ChB 24 RR.1 pn y1.heap.size Y := ⟨hN, qn.ext hxx⟩
    have hC9 := hC9.ext hxx
    have hS1 := hS1.ext hxx
    have hT1 := hT1.ext hxx
    have hE9 := hE9.trans hxx
    clear hxx hY qn
    (with_reducible refine (hq _ _ hC9.q.chr hS1).mono ?_)
    rintro e y2 ⟨v, b2, d2, rfl, hv, hT2, hd2, hxx2⟩
    obtain ⟨pm, rfl, qm⟩ := hv.cells
    have hN := hN.ext hxx2
    have hT1 := hT1.ext hxx2
    have hE9 := hE9.trans hxx2
    clear hxx2 hv hq hC9 hS1
    have hN1 := hN.q.chr
    have hN2 := qm.chr
    have hsm := fun W h1 h2 => same_any b1 b2 RR.2.2.1.length d1 RR.2.2.1.length d2 RR.2.2.1 RR.2.2.1 W h1 h2
    simp only [beq_self_eq_true] at hsm
    have hkn := fun W => known20_any W
    have hcs := fun u v W h1 h2 => chsame_any u v RR.1 W h1 h2
    go_wp2_with (first
      | (refine wpList_alloc_store (RC6) rfl rfl _ _ rfl rfl rfl rfl (by simp [Act.put]) (chCells RR.1 pm) rfl (by simp) (rfl) ((chCells_one _ _)) ?_; intro x hM _)
      | (go_at_call 25; refine (hkn _).mono ?_; rintro e w1 ⟨rfl, hxq⟩; obtain ⟨xq, rfl⟩ := hxq.out; clear hxq)
      | (go_at_call 26; (with_reducible refine (hsm ?_ ?hq245 ?hq246).mono ?_); (case hq245 => (repeat' (first | with_reducible assumption | (with_reducible exact zeros16 _) | (with_reducible exact sl_new1 _ _ _) | (with_reducible first | apply Sl.upE | apply Sl.upA | apply Sl.upD)))); (case hq246 => (repeat' (first | with_reducible assumption | (with_reducible exact zeros16 _) | (with_reducible exact sl_new1 _ _ _) | (with_reducible first | apply Sl.upE | apply Sl.upA | apply Sl.upD)))); rintro e w1 ⟨rfl, hxq⟩; obtain ⟨xq, rfl⟩ := hxq.out; clear hxq)
      | (go_at_call 27; (with_reducible refine (hcs ?_ ?_ ?_ ?hq247 ?hq248).mono ?_); (case hq247 => (repeat' (first | with_reducible assumption | (with_reducible first | apply ChR.upE | apply ChR.upA | apply ChR.upD)))); (case hq248 => (repeat' (first | with_reducible assumption | (with_reducible first | apply ChR.upE | apply ChR.upA | apply ChR.upD)))); rintro e w1 ⟨rfl, hxq⟩; obtain ⟨xq, rfl⟩ := hxq.out; clear hxq)
      | (refine wpList_wanted (by simp [Region.wanted, yielded, Act.put]) ?_; (refine wpList_load_arr (RC6) rfl _ rfl (y1.heap.size) (0) rfl (chCells RR.1 pn) (((hN.blk.extB (by repeat (first | (with_reducible first | exact Ext.refl _ | assumption | apply Ext.alloc | apply Ext.ext | apply Ext.drew | refine Ext.setCell ?_ ?_ _) | (focus (simp [go_sem]; done))))).rd)) (rfl) ?_))
      | (refine wpList_wanted (by simp [Region.wanted, yielded, Act.put]) ?_; (refine wpList_load_arr (RC6) rfl _ rfl (y2.heap.size) (0) rfl (chCells RR.1 pm) (((hM.extB (by repeat (first | (with_reducible first | exact Ext.refl _ | assumption | apply Ext.alloc | apply Ext.ext | apply Ext.drew | refine Ext.setCell ?_ ?_ _) | (focus (simp [go_sem]; done))))).rd)) (rfl) ?_))
      | fail)
    go_ret
    exact ⟨rfl, hE9.trans (by repeat (first | (with_reducible first | exact Ext.refl _ | assumption | apply Ext.alloc | apply Ext.ext | apply Ext.drew | refine Ext.setCell ?_ ?_ _) | (focus (simp [go_sem]; done))))⟩
  · go_wp2_with fail
    refine (changed_any _ _ c1 r1 at' by' _ hS1 (by omega) (by omega)).mono ?_
    rintro e w9 ⟨b3, d3, rfl, hO3, hx9⟩
    have hC := hC.ext hx9
    have hE9 := hE8.trans hx9
    have hS3 := hO3.sl
    have hd3 := hO3.le.1
    go_wp2_with (first
      | (refine wpList_load_arr (RC6) rfl _ rfl (w7.heap.size) (0) rfl (chCells (keyed false S 0 0) p2) ((hC.blk.rd)) (rfl) ?_)
      | fail)
    have hp := fun v W h1 h2 => recv_any v (keyed false S 0 0) b3 22 d3 (chg r1 at' by') W h1 (show S.length ≤ 1000000 by omega) h2 hd3 (by omega)
    have hq := fun v W h1 h2 => rrecv_any v (keyed false S 0 0) b3 22 d3 (chg r1 at' by') W h1 (show S.length ≤ 1000000 by omega) h2 hd3 (by omega)
    generalize recvE (keyed false S 0 0) (chg r1 at' by') = RR at *
    (with_reducible refine (hp _ _ hC.q.chr hS3).mono ?_)
    rintro e y1 ⟨v, b1, d1, rfl, hv, hT1, hd1, hxx1⟩
    obtain ⟨pn, rfl, qn⟩ := hv.cells
    have hC := hC.ext hxx1
    have hS3 := hS3.ext hxx1
    have hE9 := hE9.trans hxx1
    clear hxx1 hv hp
    go_wp2_with (first
      | (refine wpList_alloc_store (RC6) rfl rfl _ _ rfl rfl rfl rfl (by simp [Act.put]) (chCells RR.1 pn) rfl (by simp) (rfl) ((chCells_one _ _)) ?_; intro x hN _)
      | (refine wpList_load_arr (RC6) rfl _ rfl (w7.heap.size) (0) rfl (chCells (keyed false S 0 0) p2) (((hC.blk.extB (Ext.of_ext _ _)).rd)) (rfl) ?_)
      | fail)
    obtain ⟨Y, hY⟩ : ∃ Y, Y = y1.ext x := ⟨_, rfl⟩
    have hxx : Ext y1 Y := by rw [hY]; exact Ext.of_ext _ _
    rw [← hY] at hN ⊢
    have hN : ChB 24 RR.1 pn y1.heap.size Y := ⟨hN, qn.ext hxx⟩
    have hC := hC.ext hxx
    have hS3 := hS3.ext hxx
    have hT1 := hT1.ext hxx
    have hE9 := hE9.trans hxx
    clear hxx hY qn
    (with_reducible refine (hq _ _ hC.q.chr hS3).mono ?_)
    rintro e y2 ⟨v, b2, d2, rfl, hv, hT2, hd2, hxx2⟩
    obtain ⟨pm, rfl, qm⟩ := hv.cells
    have hN := hN.ext hxx2
    have hT1 := hT1.ext hxx2
    have hE9 := hE9.trans hxx2
    clear hxx2 hv hq hC hS3
    have hN1 := hN.q.chr
    have hN2 := qm.chr
    have hsm := fun W h1 h2 => same_any b1 b2 RR.2.2.1.length d1 RR.2.2.1.length d2 RR.2.2.1 RR.2.2.1 W h1 h2
    simp only [beq_self_eq_true] at hsm
    have hkn := fun W => known20_any W
    have hcs := fun u v W h1 h2 => chsame_any u v RR.1 W h1 h2
    go_wp2_with (first
      | (refine wpList_alloc_store (RC6) rfl rfl _ _ rfl rfl rfl rfl (by simp [Act.put]) (chCells RR.1 pm) rfl (by simp) (rfl) ((chCells_one _ _)) ?_; intro x hM _)
      | (go_at_call 25; refine (hkn _).mono ?_; rintro e w1 ⟨rfl, hxq⟩; obtain ⟨xq, rfl⟩ := hxq.out; clear hxq)
      | (go_at_call 26; (with_reducible refine (hsm ?_ ?hq249 ?hq250).mono ?_); (case hq249 => (repeat' (first | with_reducible assumption | (with_reducible exact zeros16 _) | (with_reducible exact sl_new1 _ _ _) | (with_reducible first | apply Sl.upE | apply Sl.upA | apply Sl.upD)))); (case hq250 => (repeat' (first | with_reducible assumption | (with_reducible exact zeros16 _) | (with_reducible exact sl_new1 _ _ _) | (with_reducible first | apply Sl.upE | apply Sl.upA | apply Sl.upD)))); rintro e w1 ⟨rfl, hxq⟩; obtain ⟨xq, rfl⟩ := hxq.out; clear hxq)
      | (go_at_call 27; (with_reducible refine (hcs ?_ ?_ ?_ ?hq251 ?hq252).mono ?_); (case hq251 => (repeat' (first | with_reducible assumption | (with_reducible first | apply ChR.upE | apply ChR.upA | apply ChR.upD)))); (case hq252 => (repeat' (first | with_reducible assumption | (with_reducible first | apply ChR.upE | apply ChR.upA | apply ChR.upD)))); rintro e w1 ⟨rfl, hxq⟩; obtain ⟨xq, rfl⟩ := hxq.out; clear hxq)
      | (refine wpList_wanted (by simp [Region.wanted, yielded, Act.put]) ?_; (refine wpList_load_arr (RC6) rfl _ rfl (y1.heap.size) (0) rfl (chCells RR.1 pn) (((hN.blk.extB (by repeat (first | (with_reducible first | exact Ext.refl _ | assumption | apply Ext.alloc | apply Ext.ext | apply Ext.drew | refine Ext.setCell ?_ ?_ _) | (focus (simp [go_sem]; done))))).rd)) (rfl) ?_))
      | (refine wpList_wanted (by simp [Region.wanted, yielded, Act.put]) ?_; (refine wpList_load_arr (RC6) rfl _ rfl (y2.heap.size) (0) rfl (chCells RR.1 pm) (((hM.extB (by repeat (first | (with_reducible first | exact Ext.refl _ | assumption | apply Ext.alloc | apply Ext.ext | apply Ext.drew | refine Ext.setCell ?_ ?_ _) | (focus (simp [go_sem]; done))))).rd)) (rfl) ?_))
      | fail)
    go_ret
    exact ⟨rfl, hE9.trans (by repeat (first | (with_reducible first | exact Ext.refl _ | assumption | apply Ext.alloc | apply Ext.ext | apply Ext.drew | refine Ext.setCell ?_ ?_ _) | (focus (simp [go_sem]; done))))⟩
end Go.Proofs.Ytkjdlbjbppbmdaa
