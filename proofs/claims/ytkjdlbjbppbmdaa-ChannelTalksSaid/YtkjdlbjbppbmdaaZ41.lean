/- Lemmas of this claim, several texts joined. -/
import Derived.Test.YtkjdlbjbppbmdaaZ6
import Derived.Test.YtkjdlbjbppbmdaaZ32
import Derived.Test.YtkjdlbjbppbmdaaZ35
import Derived.Test.YtkjdlbjbppbmdaaZ39
set_option linter.unusedVariables false
set_option linter.unusedSimpArgs false
/- Layer 20: the law ChannelTalks. -/
namespace Go.Proofs.Ytkjdlbjbppbmdaa
open Go.RowKit Go.Sec Go.Oct Go.Sha Go.Aes Go.Chan BigFrame

theorem talk_send (cl : Bool) (S x : List UInt8) (st rc kind : Int) (hS : S.length = 32) (h0 : 0 ≤ st) (h1 : st ≤ 1000) (h2 : 0 ≤ rc) (h3 : rc ≤ 1000) (k0 : 0 ≤ kind) (k1 : kind ≤ 255) (n : Nat) (hx : n ≤ 60) (v : Value) (a : Option Addr) (c : Nat) (w : World) (hv : ChR w v (keyed cl S st rc)) (hl : Sl w a n x) (hnc : n ≤ c) :
    Calls Try.prog 50 #[v, .int .i64 kind, .slice a n c] w fun e w' => ∃ v' b d, e = .returned (.tuple #[v', .slice b (n + 19) d, .int .i64 0]) ∧ ChR w' v' (keyed cl S (st + 1) rc) ∧ Sl w' b (n + 19) (recC (keyed cl S st rc) kind x) ∧ n + 19 ≤ d ∧ Ext w w' := by
  have hxl := hl.len
  have := send_any v (keyed cl S st rc) kind a n c x w hv (show S.length ≤ 1000000 by omega) hl hnc
  rw [sendE_ok (fit_keyed.2 ⟨hS, h0, by omega, h2, by omega⟩) (by omega) k0 k1 (by omega)] at this
  unfold SendP at this
  simp only [recC_length (keyed_snd _ _ _ _) kind x (show x.length ≤ 65519 by omega), hxl] at this
  exact this
theorem talk_recv (cl cl' : Bool) (hcl : cl' = !cl) (S x : List UInt8) (st rc st' kind : Int) (hS : S.length = 32) (h0 : 0 ≤ st) (h1 : st ≤ 1000) (h2 : 0 ≤ st') (h3 : st' ≤ 1000) (k0 : 0 ≤ kind) (k1 : kind ≤ 255) (n : Nat) (hx : n ≤ 60) (hxl : x.length = n) (v : Value) (a : Option Addr) (c : Nat) (w : World) (hv : ChR w v (keyed cl' S st' st)) (hl : Sl w a (n + 19) (recC (keyed cl S st rc) kind x)) (hnc : n + 19 ≤ c) :
    Calls Try.prog 22 #[v, .slice a (n + 19) c] w fun e w' => ∃ v' b d, e = .returned (.tuple #[v', .int .i64 kind, .slice b n d, .int .i64 0]) ∧ ChR w' v' (keyed cl' S st' (st + 1)) ∧ Sl w' b n x ∧ n ≤ d ∧ Ext w w' := by
  subst hcl
  have := recv_any v (keyed (!cl) S st' st) a (n + 19) c _ w hv (show S.length ≤ 1000000 by omega) hl hnc (by omega)
  rw [recv_send (fit_keyed.2 ⟨hS, h2, by omega, h0, by omega⟩) (by omega) k0 k1 (by omega)] at this
  unfold RecvP at this
  simp only [hxl] at this
  exact this
theorem talk_renew (cl : Bool) (S f : List UInt8) (st rc : Int) (hS : S.length = 32) (h0 : 0 ≤ st) (h1 : st ≤ 1000) (h2 : 0 ≤ rc) (h3 : rc ≤ 1000) (v : Value) (b : Option Addr) (d : Nat) (w : World) (hv : ChR w v (keyed cl S st rc)) (hl : Sl w b 16 f) (hd : 16 ≤ d) :
    Calls Try.prog 49 #[v, .slice b 16 d] w fun e w' => ∃ v', e = .returned (.tuple #[v', .int .i64 0]) ∧ ChR w' v' (keyed cl (hmac f S) 0 0) ∧ Ext w w' := by
  have hll := hl.len
  have := renew_any v (keyed cl S st rc) b 16 d f w hv (show S.length ≤ 1000000 by omega) hl hd (by omega)
  rwa [renewE_ok (fit_keyed.2 ⟨hS, h0, by omega, h2, by omega⟩) (by omega) (by omega)] at this

set_option maxRecDepth 100000 in
set_option maxHeartbeats 8000000 in
theorem channelTalks_walk (seed : Int) (a : Option Addr) (n c : Nat) (L : List (Int × List UInt8)) (w : World) (hI : Ib w a n L) (hc : n ≤ c) (hwf : ∀ x ∈ L, (Lit.int .i64 x.1).wf = true) :
    Calls Try.prog 8 #[.int .i64 seed, .slice a n c] w fun e w' => e = .returned (.bool true) ∧ Ext w w' := by
  have hkn := fun W => known20_any W
  have hLl := hI.len
  by_cases hn : 12 < n
  · have hI1 : (12 : Int) < (n : Int) := by omega
    go_enter Try.func8, Try.ntmps8
    go_wp2_with (first
      | (go_at_call 25; refine (hkn _).mono ?_; rintro e w1 ⟨rfl, hxq⟩; obtain ⟨xq, rfl⟩ := hxq.out; clear hxq)
      | fail)
    go_ret
    exact ⟨rfl, (by repeat (first | (with_reducible first | exact Ext.refl _ | assumption | apply Ext.alloc | apply Ext.ext | apply Ext.drew | refine Ext.setCell ?_ ?_ _) | (focus (simp [go_sem]; done))))⟩
  · have hI1 : ¬ (12 : Int) < (n : Int) := by omega
    obtain ⟨s, hs1, hs⟩ := nmod seed 1000 (by omega)
    simp only [Int.cast_ofNat_Int] at hs
    have HS := Lib.hid hs
    clear hs
    have hends := fun W => ends_any s rfl W (by omega)
    obtain ⟨S, hS⟩ : ∃ S, endS s = S := ⟨_, rfl⟩
    have hSl : S.length = 32 := by rw [← hS]; exact endS_length s
    rw [hS] at hends
    clear hS
    go_enter Try.func8, Try.ntmps8
    go_wp2_with fail; (with_reducible refine (within_any seed 1000 _ (by omega) (by omega)).mono ?_); rintro e w1 ⟨rfl, hxq⟩; obtain ⟨xq, rfl⟩ := hxq.out; clear hxq
    rw [HS.out]
    go_wp2_with fail
    refine (hends _).mono ?_
    rintro e w1 ⟨v1, v2, rfl, hv1, hv2, hx1⟩
    obtain ⟨p1, rfl, q1⟩ := hv1.cells
    obtain ⟨p2, rfl, q2⟩ := hv2.cells
    have hEW : Ext w w1 := (Ext.of_ext w xq).trans hx1
    clear hx1 hends hv1 hv2
    have hA0 : Blk ((w1.alloc (.cells #[.bool false, .slice none 0 0, .slice none 0 0, .slice none 0 0, .int .i64 0, .int .i64 0] 24)).alloc (.cells #[.bool false, .slice none 0 0, .slice none 0 0, .slice none 0 0, .int .i64 0, .int .i64 0] 24)) w1.heap.size 24 zeroCells := (Blk.new w1 #[.bool false, .slice none 0 0, .slice none 0 0, .slice none 0 0, .int .i64 0, .int .i64 0] 24).alloc _
    have hB0 : Blk ((w1.alloc (.cells #[.bool false, .slice none 0 0, .slice none 0 0, .slice none 0 0, .int .i64 0, .int .i64 0] 24)).alloc (.cells #[.bool false, .slice none 0 0, .slice none 0 0, .slice none 0 0, .int .i64 0, .int .i64 0] 24)) (w1.heap.size + 1) 24 zeroCells := Blk.newAt _ #[.bool false, .slice none 0 0, .slice none 0 0, .slice none 0 0, .int .i64 0, .int .i64 0] 24 (w1.heap.size + 1) (by simp)
    have hx0 : Ext w1 ((w1.alloc (.cells #[.bool false, .slice none 0 0, .slice none 0 0, .slice none 0 0, .int .i64 0, .int .i64 0] 24)).alloc (.cells #[.bool false, .slice none 0 0, .slice none 0 0, .slice none 0 0, .int .i64 0, .int .i64 0] 24)) := (Ext.of_alloc _ _).alloc _
    have q1 := q1.ext hx0
    have q2 := q2.ext hx0
    haveI := hA0.blt
    haveI := hB0.blt
    go_wp2_with (first
      | (refine wpList_store_arr (RC6) rfl _ _ rfl (w1.heap.size) (0) rfl (chCells (keyed true S 0 0) p1) rfl (24) _ (hA0) (rfl) (by simp) (chCells_one _ _) ?_; intro w2 hA2 hM2); (have hB2 := Blk.turn hM2 hB0 (by omega))
      | (refine wpList_store_arr (RC6) rfl _ _ rfl (w1.heap.size + 1) (0) rfl (chCells (keyed false S 0 0) p2) rfl (24) _ (hB2) (rfl) (by simp) (chCells_one _ _) ?_; intro w3 hB3 hM3); (have hA3 := Blk.turn hM3 hA2 (by omega))
      | fail)
    have q1 := (q1.mut hA0 zeroCells_no hM2).mut hB2 zeroCells_no hM3
    have q2 := (q2.mut hA0 zeroCells_no hM2).mut hB2 zeroCells_no hM3
    have hA : ChB 24 (keyed true S 0 0) p1 w1.heap.size w3 := ⟨hA3, q1⟩
    have hB : ChB 24 (keyed false S 0 0) p2 (w1.heap.size + 1) w3 := ⟨hB3, q2⟩
    have hE0 := hEW.trans hx0
    have hE2 : Ext w w2 := Below.trans hE0 (hM2.below hEW.size hE0.size)
    have hE3 : Ext w w3 := Below.trans hE2 (hM3.below (by have := hEW.size; omega) hE2.size)
    have hsz := hEW.size
    clear hA0 hB0 hx0 q1 q2 hM2 hM3 hA2 hB2 hA3 hB3 hEW hE0 hE2
    obtain ⟨gA, hgA⟩ : ∃ g, g = w1.heap.size := ⟨_, rfl⟩
    rw [← hgA] at hA hB hsz ⊢
    clear hgA
    go_wp2
    go_loopw [7, 8, 9, 10, 11, 12, 13, 14, 15, 16, 17, 18, 19, 20, 21, 22, 23, 24, 25, 26, 27] (fun v7 _ _ _ _ _ _ _ _ _ _ _ _ _ _ _ _ _ _ _ _ wr => ∃ (k : Nat) (S : List UInt8) (st rc : Int) (p1 p2 : Par), k ≤ n ∧ v7 = .int .i64 k ∧ S.length = 32 ∧ 0 ≤ st ∧ st ≤ k ∧ 0 ≤ rc ∧ rc ≤ k ∧ ChB 24 (keyed true S st rc) p1 gA wr ∧ ChB 24 (keyed false S rc st) p2 (gA + 1) wr ∧ Ext w wr)
      (fun v7 _ _ _ _ _ _ _ _ _ _ _ _ _ _ _ _ _ _ _ _ _ => n - (intOf v7).toNat)
    case atStart => exact ⟨0, S, 0, 0, p1, p2, by omega, rfl, hSl, by omega, by omega, by omega, by omega, hA, hB, hE3⟩
    case round =>
      clear hA hB hE3 hSl hs1
      obtain ⟨k, S, st, rc, p1, p2, hk, rfl, hSl, b1, b2, b3, b4, hA, hB, hE⟩ := hrel
      have hszw := hE.size
      by_cases hlt : k < n
      · have hki : (k : Int) < (n : Int) := by omega
        obtain ⟨x, hx⟩ : ∃ x, L[k]? = some x := ⟨_, List.getElem?_eq_getElem (by omega)⟩
        obtain ⟨kd, dt⟩ := x
        obtain ⟨b, off, g, cg, rfl, hb, hc0, hc1, hSd, hcd⟩ := (hI.ext hE).at k hlt _ hx
        have hdl : (dt.take 60).length = min dt.length 60 := by rw [List.length_take]; omega
        go_wp2_with fail
        refine (few_any g dt.length cg dt 60 (show (60 : Int) = ((60 : Nat) : Int) from rfl) _ hSd hcd (by omega)).mono ?_
        rintro e w2 ⟨a1, c1, rfl, hO1, hx1⟩
        have hsX := hO1.sl
        have hcX := hO1.le.1
        generalize dt.take 60 = X at *
        generalize hm : min dt.length 60 = m at *
        have hm60 : m ≤ 60 := by omega
        have hc0 := (hx1.cell (p := ⟨b, _, none⟩) hb.lt).trans hc0
        haveI := hb
        haveI : BlkLt b w2 := ⟨Nat.lt_of_lt_of_le hb.lt hx1.size⟩
        have hA := hA.ext hx1
        have hB := hB.ext hx1
        have hE := hE.trans hx1
        clear hO1 hc1 hSd hcd hx1
        go_wp2_with fail
        refine (within_any kd 5 _ (by omega) (by omega)).mono ?_
        rintro e w3 ⟨rfl, hx1⟩
        have hA := hA.ext hx1
        have hB := hB.ext hx1
        have hE := hE.trans hx1
        have hsX := hsX.ext hx1
        clear hx1 hc0
        have hkd : kd % 5 = 0 ∨ kd % 5 = 1 ∨ kd % 5 = 2 ∨ kd % 5 = 3 ∨ kd % 5 = 4 := by omega
        generalize kd % 5 = kq at *
        rcases hkd with rfl | rfl | rfl | rfl | rfl
        · go_wp2_with fail
          refine (wbytes_any k 16 rfl (show (16 : Int) = ((16 : Nat) : Int) from rfl) _ (by omega) (by omega)).mono ?_
          rintro e w4 ⟨a2, c2, rfl, hO2, hx⟩
          have hF := hO2.sl
          have hcF := hO2.le.1
          generalize wbytes k 16 = F at *
          clear hO2
          replace hA := hA.ext hx
          replace hB := hB.ext hx
          replace hE := hE.trans hx
          clear hx
          obtain ⟨S2, hS2⟩ : ∃ S2, hmac F S = S2 := ⟨_, rfl⟩
          have hS2l : S2.length = 32 := by rw [← hS2]; exact hmac_length _ _
          have r1 := fun v b d W h1 h2 h3 => talk_renew true S F st rc hSl b1 (by omega) b3 (by omega) v b d W h1 h2 h3
          have r2 := fun v b d W h1 h2 h3 => talk_renew false S F rc st hSl b3 (by omega) b1 (by omega) v b d W h1 h2 h3
          rw [hS2] at r1 r2
          clear hS2
          go_wp2_with (first
            | (refine wpList_load_arr (RC6) rfl _ rfl (gA) (0) rfl (chCells (keyed true S st rc) p1) ((hA.blk.rd)) (rfl) ?_)
            | fail)
          (with_reducible refine (r1 _ _ _ _ hA.q.chr hF hcF).mono ?_)
          rintro e w5 ⟨v, rfl, hv, hx⟩
          obtain ⟨p3, rfl, q3⟩ := hv.cells
          replace hA := hA.ext hx
          replace hB := hB.ext hx
          replace hE := hE.trans hx
          (try replace hsX := hsX.ext hx)
          (try replace hF := hF.ext hx)
          (try replace hR := hR.ext hx)
          (try replace hY := hY.ext hx)
          (try replace hC := hC.ext hx)
          clear hx hv r1
          have HN0 := hB.blk.lt
          go_wp2_with (first
            | (refine wpList_alloc_store (RC6) rfl rfl _ _ rfl rfl rfl rfl (by simp [Act.put]) (chCells (keyed true S2 0 0) p3) rfl (by simp) (rfl) ((chCells_one _ _)) ?_; intro x hz _)
            | (refine wpList_load_arr (RC6) rfl _ rfl (gA + 1) (0) rfl (chCells (keyed false S rc st) p2) (((hB.blk.extB (by repeat (first | (with_reducible first | exact Ext.refl _ | assumption | apply Ext.alloc | apply Ext.ext | apply Ext.drew | refine Ext.setCell ?_ ?_ _) | (focus (simp [go_sem]; done))))).rd)) (rfl) ?_)
            | fail)
          obtain ⟨W, hW⟩ : ∃ W, W = w5.ext x := ⟨_, rfl⟩
          rw [← hW] at hz ⊢
          have hx : Ext w5 W := by rw [hW]; exact Ext.of_ext _ _
          have hC : ChB 24 (keyed true S2 0 0) p3 w5.heap.size W := ⟨hz, q3.ext hx⟩
          clear hW hz q3
          replace hA := hA.ext hx
          replace hB := hB.ext hx
          replace hE := hE.trans hx
          (try replace hsX := hsX.ext hx)
          (try replace hF := hF.ext hx)
          (try replace hR := hR.ext hx)
          (try replace hY := hY.ext hx)
          (try replace hC := hC.ext hx)
          clear hx
          (with_reducible refine (r2 _ _ _ _ hB.q.chr hF hcF).mono ?_)
          rintro e w6 ⟨v, rfl, hv, hx⟩
          obtain ⟨p4, rfl, q4⟩ := hv.cells
          replace hA := hA.ext hx
          replace hB := hB.ext hx
          replace hE := hE.trans hx
          (try replace hsX := hsX.ext hx)
          (try replace hF := hF.ext hx)
          (try replace hR := hR.ext hx)
          (try replace hY := hY.ext hx)
          (try replace hC := hC.ext hx)
          clear hx hv r2
          have hC0 := hC.blk.lt
          have HN0 := hB.blk.lt
          go_wp2_with (first
            | (refine wpList_alloc_store (RC6) rfl rfl _ _ rfl rfl rfl rfl (by simp [Act.put]) (chCells (keyed false S2 0 0) p4) rfl (by simp) (rfl) ((chCells_one _ _)) ?_; intro x hz _)
            | fail
            | fail)
          obtain ⟨W, hW⟩ : ∃ W, W = w6.ext x := ⟨_, rfl⟩
          rw [← hW] at hz ⊢
          have hx : Ext w6 W := by rw [hW]; exact Ext.of_ext _ _
          have hD : ChB 24 (keyed false S2 0 0) p4 w6.heap.size W := ⟨hz, q4.ext hx⟩
          clear hW hz q4
          replace hA := hA.ext hx
          replace hB := hB.ext hx
          replace hE := hE.trans hx
          (try replace hsX := hsX.ext hx)
          (try replace hF := hF.ext hx)
          (try replace hR := hR.ext hx)
          (try replace hY := hY.ext hx)
          (try replace hC := hC.ext hx)
          have hSE : ∀ w', Ext (W) w' → (fun w' => ChB 24 (keyed true S2 0 0) p3 w5.heap.size w' ∧ ChB 24 (keyed false S2 0 0) p4 w6.heap.size w') w' := (fun w' h => ⟨hC.ext h, hD.ext h⟩); have hExt0 : Ext (W) (W).drew := Ext.drew (Ext.refl _); refine wp_region_held_drew (S := fun w' => ChB 24 (keyed true S2 0 0) p3 w5.heap.size w' ∧ ChB 24 (keyed false S2 0 0) p4 w6.heap.size w') (by kernel_rfl) (hSE _ hExt0) (fun hHeld => ?_)
          refine wpAnyH_take (i := 0) rfl (by kernel_rfl) (by kernel_rfl) (by kernel_rfl) (fun _ _ _ h => h) (R5.take_load (RC6) _ rfl rfl (w5.heap.size) (0) rfl (chCells (keyed true S2 0 0) p3) ((fun w' h => h.1.blk.rd)) (rfl)) hHeld ?_; (try simp only [List.getElem_toArray, List.getElem_cons_succ, List.getElem_cons_zero, Act.put, List.setIfInBounds_toArray, List.set_cons_succ, List.set_cons_zero])
          refine wpAnyH_take (i := 1) rfl (by kernel_rfl) (by kernel_rfl) (by kernel_rfl) (fun _ _ _ h => h) (R5.take_load (RC6) _ rfl rfl (w6.heap.size) (0) rfl (chCells (keyed false S2 0 0) p4) ((fun w' h => h.2.blk.rd)) (rfl)) hHeld ?_; (try simp only [List.getElem_toArray, List.getElem_cons_succ, List.getElem_cons_zero, Act.put, List.setIfInBounds_toArray, List.set_cons_succ, List.set_cons_zero])
          have hA2 := hA.blk.extB hExt0
          have hB2 := hB.blk.extB hExt0
          obtain ⟨hUd, hVd⟩ := hHeld
          refine R5.only_store RC6 2 (by kernel_rfl) rfl rfl _ _ rfl (gA) 0 rfl (chCells (keyed true S2 0 0) p3) rfl 24 _ hA2 rfl (by simp) (chCells_one _ _) ?_
          intro z5 hB5 hM5
          have hU5 := hUd.mut hA2 (chCells_no _ _) hM5 (by omega)
          have hV5 := hVd.mut hA2 (chCells_no _ _) hM5 (by omega)
          have hZ5 := Blk.turn hM5 hB2 (by omega)
          refine ⟨⟨hU5, hV5⟩, ?_⟩
          (try simp only [List.getElem_toArray, List.getElem_cons_succ, List.getElem_cons_zero, Act.put, List.setIfInBounds_toArray, List.set_cons_succ, List.set_cons_zero])
          refine R5.only_store RC6 3 (by kernel_rfl) rfl rfl _ _ rfl (gA + 1) 0 rfl (chCells (keyed false S2 0 0) p4) rfl 24 _ hZ5 rfl (by simp) (chCells_one _ _) ?_
          intro z6 hB6 hM6
          have hU6 := hU5.mut hZ5 (chCells_no _ _) hM6 (by omega)
          have hV6 := hV5.mut hZ5 (chCells_no _ _) hM6 (by omega)
          have hB5 := Blk.turn hM6 hB5 (by omega)
          refine ⟨⟨hU6, hV6⟩, ?_⟩
          (try simp only [List.getElem_toArray, List.getElem_cons_succ, List.getElem_cons_zero, Act.put, List.setIfInBounds_toArray, List.set_cons_succ, List.set_cons_zero])
          refine wpAnyH_done (by kernel_rfl) ?_ _
          have hE4 := hE.trans hExt0
          have hE5 : Ext w z5 := Below.trans hE4 (hM5.below (by omega) hE4.size)
          have hE6 : Ext w z6 := Below.trans hE5 (hM6.below (by omega) hE5.size)
          go_wp2
          go_roundw
          case rel => exact ⟨k + 1, S2, 0, 0, p3, p4, by omega, by go_num, hS2l, by omega, by omega, by omega, by omega, ⟨hB5, hU6.q⟩, ⟨hB6, hV6.q⟩, hE6⟩
          case measure => simp [intOf]; omega
        · skip
          go_wp2_with (first
            | (refine wpList_load_arr (RC6) rfl _ rfl (gA) (0) rfl (chCells (keyed true S st rc) p1) ((hA.blk.rd)) (rfl) ?_)
            | fail)
          (with_reducible refine (talk_send true S X st rc k hSl b1 (by omega) b3 (by omega) (by omega) (by omega) m hm60 _ _ _ _ hA.q.chr hsX hcX).mono ?_)
          rintro e w4 ⟨v, a2, c2, rfl, hv, hR, hcR, hx⟩
          obtain ⟨p3, rfl, q3⟩ := hv.cells
          replace hA := hA.ext hx
          replace hB := hB.ext hx
          replace hE := hE.trans hx
          (try replace hsX := hsX.ext hx)
          (try replace hF := hF.ext hx)
          (try replace hR := hR.ext hx)
          (try replace hY := hY.ext hx)
          (try replace hC := hC.ext hx)
          clear hx hv
          have HN0 := hB.blk.lt
          go_wp2_with (first
            | (refine wpList_alloc_store (RC6) rfl rfl _ _ rfl rfl rfl rfl (by simp [Act.put]) (chCells (keyed true S (st + 1) rc) p3) rfl (by simp) (rfl) ((chCells_one _ _)) ?_; intro x hz _)
            | (refine wpList_load_arr (RC6) rfl _ rfl (gA + 1) (0) rfl (chCells (keyed false S rc st) p2) (((hB.blk.extB (by repeat (first | (with_reducible first | exact Ext.refl _ | assumption | apply Ext.alloc | apply Ext.ext | apply Ext.drew | refine Ext.setCell ?_ ?_ _) | (focus (simp [go_sem]; done))))).rd)) (rfl) ?_)
            | fail)
          obtain ⟨W, hW⟩ : ∃ W, W = w4.ext x := ⟨_, rfl⟩
          rw [← hW] at hz ⊢
          have hx : Ext w4 W := by rw [hW]; exact Ext.of_ext _ _
          have hC : ChB 24 (keyed true S (st + 1) rc) p3 w4.heap.size W := ⟨hz, q3.ext hx⟩
          clear hW hz q3
          replace hA := hA.ext hx
          replace hB := hB.ext hx
          replace hE := hE.trans hx
          (try replace hsX := hsX.ext hx)
          (try replace hF := hF.ext hx)
          (try replace hR := hR.ext hx)
          (try replace hY := hY.ext hx)
          (try replace hC := hC.ext hx)
          clear hx
          (with_reducible refine (talk_recv true false rfl S X st rc rc k hSl b1 (by omega) b3 (by omega) (by omega) (by omega) m hm60 hsX.len _ _ _ _ hB.q.chr hR hcR).mono ?_)
          rintro e w5 ⟨v, a3, c3, rfl, hv, hY, hcY, hx⟩
          obtain ⟨p4, rfl, q4⟩ := hv.cells
          replace hA := hA.ext hx
          replace hB := hB.ext hx
          replace hE := hE.trans hx
          (try replace hsX := hsX.ext hx)
          (try replace hF := hF.ext hx)
          (try replace hR := hR.ext hx)
          (try replace hY := hY.ext hx)
          (try replace hC := hC.ext hx)
          clear hx hv
          have hC0 := hC.blk.lt
          have sm := fun W h1 h2 => same_any a1 a3 m c1 m c3 X X W h1 h2
          simp only [beq_self_eq_true] at sm
          haveI := hA.blk.blt
          haveI := hB.blk.blt
          haveI := hC.blk.blt
          have f1 : w5.cell? ⟨w4.heap.size, 4, none⟩ = some (.int .i64 (st + 1)) := hC.blk.cell? 4 rfl
          have f2 : w5.cell? ⟨gA, 4, none⟩ = some (.int .i64 st) := hA.blk.cell? 4 rfl
          have f3 : w5.cell? ⟨gA + 1, 5, none⟩ = some (.int .i64 st) := hB.blk.cell? 5 rfl
          go_wp2_with (first
            | (refine wpList_alloc_store (RC6) rfl rfl _ _ rfl rfl rfl rfl (by simp [Act.put]) (chCells (keyed false S rc (st + 1)) p4) rfl (by simp) (rfl) ((chCells_one _ _)) ?_; intro x hz _); (haveI := hz.blt); (have f4 : (w5.ext x).cell? ⟨w5.heap.size, 5, none⟩ = some (.int .i64 (st + 1)) := hz.cell? 5 rfl)
            | (go_at_call 26; (with_reducible refine (sm ?_ ?hq247 ?hq248).mono ?_); (case hq247 => (repeat' (first | with_reducible assumption | (with_reducible exact zeros16 _) | (with_reducible exact sl_new1 _ _ _) | (with_reducible first | apply Sl.upE | apply Sl.upA | apply Sl.upD)))); (case hq248 => (repeat' (first | with_reducible assumption | (with_reducible exact zeros16 _) | (with_reducible exact sl_new1 _ _ _) | (with_reducible first | apply Sl.upE | apply Sl.upA | apply Sl.upD)))); rintro e w1 ⟨rfl, hxq⟩; obtain ⟨xq, rfl⟩ := hxq.out; clear hxq)
            | fail)
          obtain ⟨W, hW⟩ : ∃ W, W = (w5.ext x).ext xq := ⟨_, rfl⟩
          have hx : Ext w5 W := by rw [hW]; exact (Ext.of_ext _ _).ext _
          have hz := hz.extB (Ext.of_ext _ xq)
          rw [← hW] at hz ⊢
          have hD : ChB 24 (keyed false S rc (st + 1)) p4 w5.heap.size W := ⟨hz, q4.ext hx⟩
          clear hW hz q4 f4
          replace hA := hA.ext hx
          replace hB := hB.ext hx
          replace hE := hE.trans hx
          (try replace hsX := hsX.ext hx)
          (try replace hF := hF.ext hx)
          (try replace hR := hR.ext hx)
          (try replace hY := hY.ext hx)
          (try replace hC := hC.ext hx)
          clear hx sm f1 f2 f3
          have hSE : ∀ w', Ext (W) w' → (fun w' => ChB 24 (keyed true S (st + 1) rc) p3 w4.heap.size w' ∧ ChB 24 (keyed false S rc (st + 1)) p4 w5.heap.size w') w' := (fun w' h => ⟨hC.ext h, hD.ext h⟩); have hExt0 : Ext (W) (W).drew := Ext.drew (Ext.refl _); refine wp_region_held_drew (S := fun w' => ChB 24 (keyed true S (st + 1) rc) p3 w4.heap.size w' ∧ ChB 24 (keyed false S rc (st + 1)) p4 w5.heap.size w') (by kernel_rfl) (hSE _ hExt0) (fun hHeld => ?_)
          refine wpAnyH_take (i := 0) rfl (by kernel_rfl) (by kernel_rfl) (by kernel_rfl) (fun _ _ _ h => h) (R5.take_load (RC6) _ rfl rfl (w4.heap.size) (0) rfl (chCells (keyed true S (st + 1) rc) p3) ((fun w' h => h.1.blk.rd)) (rfl)) hHeld ?_; (try simp only [List.getElem_toArray, List.getElem_cons_succ, List.getElem_cons_zero, Act.put, List.setIfInBounds_toArray, List.set_cons_succ, List.set_cons_zero])
          refine wpAnyH_take (i := 1) rfl (by kernel_rfl) (by kernel_rfl) (by kernel_rfl) (fun _ _ _ h => h) (R5.take_load (RC6) _ rfl rfl (w5.heap.size) (0) rfl (chCells (keyed false S rc (st + 1)) p4) ((fun w' h => h.2.blk.rd)) (rfl)) hHeld ?_; (try simp only [List.getElem_toArray, List.getElem_cons_succ, List.getElem_cons_zero, Act.put, List.setIfInBounds_toArray, List.set_cons_succ, List.set_cons_zero])
          have hA2 := hA.blk.extB hExt0
          have hB2 := hB.blk.extB hExt0
          obtain ⟨hUd, hVd⟩ := hHeld
          refine R5.only_store RC6 2 (by kernel_rfl) rfl rfl _ _ rfl (gA) 0 rfl (chCells (keyed true S (st + 1) rc) p3) rfl 24 _ hA2 rfl (by simp) (chCells_one _ _) ?_
          intro z5 hB5 hM5
          have hU5 := hUd.mut hA2 (chCells_no _ _) hM5 (by omega)
          have hV5 := hVd.mut hA2 (chCells_no _ _) hM5 (by omega)
          have hZ5 := Blk.turn hM5 hB2 (by omega)
          refine ⟨⟨hU5, hV5⟩, ?_⟩
          (try simp only [List.getElem_toArray, List.getElem_cons_succ, List.getElem_cons_zero, Act.put, List.setIfInBounds_toArray, List.set_cons_succ, List.set_cons_zero])
          refine R5.only_store RC6 3 (by kernel_rfl) rfl rfl _ _ rfl (gA + 1) 0 rfl (chCells (keyed false S rc (st + 1)) p4) rfl 24 _ hZ5 rfl (by simp) (chCells_one _ _) ?_
          intro z6 hB6 hM6
          have hU6 := hU5.mut hZ5 (chCells_no _ _) hM6 (by omega)
          have hV6 := hV5.mut hZ5 (chCells_no _ _) hM6 (by omega)
          have hB5 := Blk.turn hM6 hB5 (by omega)
          refine ⟨⟨hU6, hV6⟩, ?_⟩
          (try simp only [List.getElem_toArray, List.getElem_cons_succ, List.getElem_cons_zero, Act.put, List.setIfInBounds_toArray, List.set_cons_succ, List.set_cons_zero])
          refine wpAnyH_done (by kernel_rfl) ?_ _
          have hE4 := hE.trans hExt0
          have hE5 : Ext w z5 := Below.trans hE4 (hM5.below (by omega) hE4.size)
          have hE6 : Ext w z6 := Below.trans hE5 (hM6.below (by omega) hE5.size)
          go_wp2
          go_roundw
          case rel => exact ⟨k + 1, S, st + 1, rc, p3, p4, by omega, by go_num, hSl, by omega, by omega, by omega, by omega, ⟨hB5, hU6.q⟩, ⟨hB6, hV6.q⟩, hE6⟩
          case measure => simp [intOf]; omega
        · skip
          go_wp2_with (first
            | (refine wpList_load_arr (RC6) rfl _ rfl (gA) (0) rfl (chCells (keyed true S st rc) p1) ((hA.blk.rd)) (rfl) ?_)
            | fail)
          (with_reducible refine (talk_send true S X st rc k hSl b1 (by omega) b3 (by omega) (by omega) (by omega) m hm60 _ _ _ _ hA.q.chr hsX hcX).mono ?_)
          rintro e w4 ⟨v, a2, c2, rfl, hv, hR, hcR, hx⟩
          obtain ⟨p3, rfl, q3⟩ := hv.cells
          replace hA := hA.ext hx
          replace hB := hB.ext hx
          replace hE := hE.trans hx
          (try replace hsX := hsX.ext hx)
          (try replace hF := hF.ext hx)
          (try replace hR := hR.ext hx)
          (try replace hY := hY.ext hx)
          (try replace hC := hC.ext hx)
          clear hx hv
          have HN0 := hB.blk.lt
          go_wp2_with (first
            | (refine wpList_alloc_store (RC6) rfl rfl _ _ rfl rfl rfl rfl (by simp [Act.put]) (chCells (keyed true S (st + 1) rc) p3) rfl (by simp) (rfl) ((chCells_one _ _)) ?_; intro x hz _)
            | (refine wpList_load_arr (RC6) rfl _ rfl (gA + 1) (0) rfl (chCells (keyed false S rc st) p2) (((hB.blk.extB (by repeat (first | (with_reducible first | exact Ext.refl _ | assumption | apply Ext.alloc | apply Ext.ext | apply Ext.drew | refine Ext.setCell ?_ ?_ _) | (focus (simp [go_sem]; done))))).rd)) (rfl) ?_)
            | fail)
          obtain ⟨W, hW⟩ : ∃ W, W = w4.ext x := ⟨_, rfl⟩
          rw [← hW] at hz ⊢
          have hx : Ext w4 W := by rw [hW]; exact Ext.of_ext _ _
          have hC : ChB 24 (keyed true S (st + 1) rc) p3 w4.heap.size W := ⟨hz, q3.ext hx⟩
          clear hW hz q3
          replace hA := hA.ext hx
          replace hB := hB.ext hx
          replace hE := hE.trans hx
          (try replace hsX := hsX.ext hx)
          (try replace hF := hF.ext hx)
          (try replace hR := hR.ext hx)
          (try replace hY := hY.ext hx)
          (try replace hC := hC.ext hx)
          clear hx
          (with_reducible refine (talk_recv true false rfl S X st rc rc k hSl b1 (by omega) b3 (by omega) (by omega) (by omega) m hm60 hsX.len _ _ _ _ hB.q.chr hR hcR).mono ?_)
          rintro e w5 ⟨v, a3, c3, rfl, hv, hY, hcY, hx⟩
          obtain ⟨p4, rfl, q4⟩ := hv.cells
          replace hA := hA.ext hx
          replace hB := hB.ext hx
          replace hE := hE.trans hx
          (try replace hsX := hsX.ext hx)
          (try replace hF := hF.ext hx)
          (try replace hR := hR.ext hx)
          (try replace hY := hY.ext hx)
          (try replace hC := hC.ext hx)
          clear hx hv
          have hC0 := hC.blk.lt
          have sm := fun W h1 h2 => same_any a1 a3 m c1 m c3 X X W h1 h2
          simp only [beq_self_eq_true] at sm
          haveI := hA.blk.blt
          haveI := hB.blk.blt
          haveI := hC.blk.blt
          have f1 : w5.cell? ⟨w4.heap.size, 4, none⟩ = some (.int .i64 (st + 1)) := hC.blk.cell? 4 rfl
          have f2 : w5.cell? ⟨gA, 4, none⟩ = some (.int .i64 st) := hA.blk.cell? 4 rfl
          have f3 : w5.cell? ⟨gA + 1, 5, none⟩ = some (.int .i64 st) := hB.blk.cell? 5 rfl
          go_wp2_with (first
            | (refine wpList_alloc_store (RC6) rfl rfl _ _ rfl rfl rfl rfl (by simp [Act.put]) (chCells (keyed false S rc (st + 1)) p4) rfl (by simp) (rfl) ((chCells_one _ _)) ?_; intro x hz _); (haveI := hz.blt); (have f4 : (w5.ext x).cell? ⟨w5.heap.size, 5, none⟩ = some (.int .i64 (st + 1)) := hz.cell? 5 rfl)
            | (go_at_call 26; (with_reducible refine (sm ?_ ?hq249 ?hq250).mono ?_); (case hq249 => (repeat' (first | with_reducible assumption | (with_reducible exact zeros16 _) | (with_reducible exact sl_new1 _ _ _) | (with_reducible first | apply Sl.upE | apply Sl.upA | apply Sl.upD)))); (case hq250 => (repeat' (first | with_reducible assumption | (with_reducible exact zeros16 _) | (with_reducible exact sl_new1 _ _ _) | (with_reducible first | apply Sl.upE | apply Sl.upA | apply Sl.upD)))); rintro e w1 ⟨rfl, hxq⟩; obtain ⟨xq, rfl⟩ := hxq.out; clear hxq)
            | fail)
          obtain ⟨W, hW⟩ : ∃ W, W = (w5.ext x).ext xq := ⟨_, rfl⟩
          have hx : Ext w5 W := by rw [hW]; exact (Ext.of_ext _ _).ext _
          have hz := hz.extB (Ext.of_ext _ xq)
          rw [← hW] at hz ⊢
          have hD : ChB 24 (keyed false S rc (st + 1)) p4 w5.heap.size W := ⟨hz, q4.ext hx⟩
          clear hW hz q4 f4
          replace hA := hA.ext hx
          replace hB := hB.ext hx
          replace hE := hE.trans hx
          (try replace hsX := hsX.ext hx)
          (try replace hF := hF.ext hx)
          (try replace hR := hR.ext hx)
          (try replace hY := hY.ext hx)
          (try replace hC := hC.ext hx)
          clear hx sm f1 f2 f3
          have hSE : ∀ w', Ext (W) w' → (fun w' => ChB 24 (keyed true S (st + 1) rc) p3 w4.heap.size w' ∧ ChB 24 (keyed false S rc (st + 1)) p4 w5.heap.size w') w' := (fun w' h => ⟨hC.ext h, hD.ext h⟩); have hExt0 : Ext (W) (W).drew := Ext.drew (Ext.refl _); refine wp_region_held_drew (S := fun w' => ChB 24 (keyed true S (st + 1) rc) p3 w4.heap.size w' ∧ ChB 24 (keyed false S rc (st + 1)) p4 w5.heap.size w') (by kernel_rfl) (hSE _ hExt0) (fun hHeld => ?_)
          refine wpAnyH_take (i := 0) rfl (by kernel_rfl) (by kernel_rfl) (by kernel_rfl) (fun _ _ _ h => h) (R5.take_load (RC6) _ rfl rfl (w4.heap.size) (0) rfl (chCells (keyed true S (st + 1) rc) p3) ((fun w' h => h.1.blk.rd)) (rfl)) hHeld ?_; (try simp only [List.getElem_toArray, List.getElem_cons_succ, List.getElem_cons_zero, Act.put, List.setIfInBounds_toArray, List.set_cons_succ, List.set_cons_zero])
          refine wpAnyH_take (i := 1) rfl (by kernel_rfl) (by kernel_rfl) (by kernel_rfl) (fun _ _ _ h => h) (R5.take_load (RC6) _ rfl rfl (w5.heap.size) (0) rfl (chCells (keyed false S rc (st + 1)) p4) ((fun w' h => h.2.blk.rd)) (rfl)) hHeld ?_; (try simp only [List.getElem_toArray, List.getElem_cons_succ, List.getElem_cons_zero, Act.put, List.setIfInBounds_toArray, List.set_cons_succ, List.set_cons_zero])
          have hA2 := hA.blk.extB hExt0
          have hB2 := hB.blk.extB hExt0
          obtain ⟨hUd, hVd⟩ := hHeld
          refine R5.only_store RC6 2 (by kernel_rfl) rfl rfl _ _ rfl (gA) 0 rfl (chCells (keyed true S (st + 1) rc) p3) rfl 24 _ hA2 rfl (by simp) (chCells_one _ _) ?_
          intro z5 hB5 hM5
          have hU5 := hUd.mut hA2 (chCells_no _ _) hM5 (by omega)
          have hV5 := hVd.mut hA2 (chCells_no _ _) hM5 (by omega)
          have hZ5 := Blk.turn hM5 hB2 (by omega)
          refine ⟨⟨hU5, hV5⟩, ?_⟩
          (try simp only [List.getElem_toArray, List.getElem_cons_succ, List.getElem_cons_zero, Act.put, List.setIfInBounds_toArray, List.set_cons_succ, List.set_cons_zero])
          refine R5.only_store RC6 3 (by kernel_rfl) rfl rfl _ _ rfl (gA + 1) 0 rfl (chCells (keyed false S rc (st + 1)) p4) rfl 24 _ hZ5 rfl (by simp) (chCells_one _ _) ?_
          intro z6 hB6 hM6
          have hU6 := hU5.mut hZ5 (chCells_no _ _) hM6 (by omega)
          have hV6 := hV5.mut hZ5 (chCells_no _ _) hM6 (by omega)
          have hB5 := Blk.turn hM6 hB5 (by omega)
          refine ⟨⟨hU6, hV6⟩, ?_⟩
          (try simp only [List.getElem_toArray, List.getElem_cons_succ, List.getElem_cons_zero, Act.put, List.setIfInBounds_toArray, List.set_cons_succ, List.set_cons_zero])
          refine wpAnyH_done (by kernel_rfl) ?_ _
          have hE4 := hE.trans hExt0
          have hE5 : Ext w z5 := Below.trans hE4 (hM5.below (by omega) hE4.size)
          have hE6 : Ext w z6 := Below.trans hE5 (hM6.below (by omega) hE5.size)
          go_wp2
          go_roundw
          case rel => exact ⟨k + 1, S, st + 1, rc, p3, p4, by omega, by go_num, hSl, by omega, by omega, by omega, by omega, ⟨hB5, hU6.q⟩, ⟨hB6, hV6.q⟩, hE6⟩
          case measure => simp [intOf]; omega
        · skip
          go_wp2_with (first
            | (refine wpList_load_arr (RC6) rfl _ rfl (gA + 1) (0) rfl (chCells (keyed false S rc st) p2) ((hB.blk.rd)) (rfl) ?_)
            | fail)
          (with_reducible refine (talk_send false S X rc st k hSl b3 (by omega) b1 (by omega) (by omega) (by omega) m hm60 _ _ _ _ hB.q.chr hsX hcX).mono ?_)
          rintro e w4 ⟨v, a2, c2, rfl, hv, hR, hcR, hx⟩
          obtain ⟨p3, rfl, q3⟩ := hv.cells
          replace hA := hA.ext hx
          replace hB := hB.ext hx
          replace hE := hE.trans hx
          (try replace hsX := hsX.ext hx)
          (try replace hF := hF.ext hx)
          (try replace hR := hR.ext hx)
          (try replace hY := hY.ext hx)
          (try replace hC := hC.ext hx)
          clear hx hv
          have HN0 := hB.blk.lt
          go_wp2_with (first
            | (refine wpList_alloc_store (RC6) rfl rfl _ _ rfl rfl rfl rfl (by simp [Act.put]) (chCells (keyed false S (rc + 1) st) p3) rfl (by simp) (rfl) ((chCells_one _ _)) ?_; intro x hz _)
            | (refine wpList_load_arr (RC6) rfl _ rfl (gA) (0) rfl (chCells (keyed true S st rc) p1) (((hA.blk.extB (by repeat (first | (with_reducible first | exact Ext.refl _ | assumption | apply Ext.alloc | apply Ext.ext | apply Ext.drew | refine Ext.setCell ?_ ?_ _) | (focus (simp [go_sem]; done))))).rd)) (rfl) ?_)
            | fail)
          obtain ⟨W, hW⟩ : ∃ W, W = w4.ext x := ⟨_, rfl⟩
          rw [← hW] at hz ⊢
          have hx : Ext w4 W := by rw [hW]; exact Ext.of_ext _ _
          have hC : ChB 24 (keyed false S (rc + 1) st) p3 w4.heap.size W := ⟨hz, q3.ext hx⟩
          clear hW hz q3
          replace hA := hA.ext hx
          replace hB := hB.ext hx
          replace hE := hE.trans hx
          (try replace hsX := hsX.ext hx)
          (try replace hF := hF.ext hx)
          (try replace hR := hR.ext hx)
          (try replace hY := hY.ext hx)
          (try replace hC := hC.ext hx)
          clear hx
          (with_reducible refine (talk_recv false true rfl S X rc st st k hSl b3 (by omega) b1 (by omega) (by omega) (by omega) m hm60 hsX.len _ _ _ _ hA.q.chr hR hcR).mono ?_)
          rintro e w5 ⟨v, a3, c3, rfl, hv, hY, hcY, hx⟩
          obtain ⟨p4, rfl, q4⟩ := hv.cells
          replace hA := hA.ext hx
          replace hB := hB.ext hx
          replace hE := hE.trans hx
          (try replace hsX := hsX.ext hx)
          (try replace hF := hF.ext hx)
          (try replace hR := hR.ext hx)
          (try replace hY := hY.ext hx)
          (try replace hC := hC.ext hx)
          clear hx hv
          have hC0 := hC.blk.lt
          have sm := fun W h1 h2 => same_any a1 a3 m c1 m c3 X X W h1 h2
          simp only [beq_self_eq_true] at sm
          go_wp2_with (first
            | (refine wpList_alloc_store (RC6) rfl rfl _ _ rfl rfl rfl rfl (by simp [Act.put]) (chCells (keyed true S st (rc + 1)) p4) rfl (by simp) (rfl) ((chCells_one _ _)) ?_; intro x hz _)
            | (go_at_call 26; (with_reducible refine (sm ?_ ?hq251 ?hq252).mono ?_); (case hq251 => (repeat' (first | with_reducible assumption | (with_reducible exact zeros16 _) | (with_reducible exact sl_new1 _ _ _) | (with_reducible first | apply Sl.upE | apply Sl.upA | apply Sl.upD)))); (case hq252 => (repeat' (first | with_reducible assumption | (with_reducible exact zeros16 _) | (with_reducible exact sl_new1 _ _ _) | (with_reducible first | apply Sl.upE | apply Sl.upA | apply Sl.upD)))); rintro e w1 ⟨rfl, hxq⟩; obtain ⟨xq, rfl⟩ := hxq.out; clear hxq)
            | fail)
          obtain ⟨W, hW⟩ : ∃ W, W = (w5.ext x).ext xq := ⟨_, rfl⟩
          have hx : Ext w5 W := by rw [hW]; exact (Ext.of_ext _ _).ext _
          have hz := hz.extB (Ext.of_ext _ xq)
          rw [← hW] at hz ⊢
          have hD : ChB 24 (keyed true S st (rc + 1)) p4 w5.heap.size W := ⟨hz, q4.ext hx⟩
          clear hW hz q4
          replace hA := hA.ext hx
          replace hB := hB.ext hx
          replace hE := hE.trans hx
          (try replace hsX := hsX.ext hx)
          (try replace hF := hF.ext hx)
          (try replace hR := hR.ext hx)
          (try replace hY := hY.ext hx)
          (try replace hC := hC.ext hx)
          clear hx sm
          have hSE : ∀ w', Ext (W) w' → (fun w' => ChB 24 (keyed false S (rc + 1) st) p3 w4.heap.size w' ∧ ChB 24 (keyed true S st (rc + 1)) p4 w5.heap.size w') w' := (fun w' h => ⟨hC.ext h, hD.ext h⟩); have hExt0 : Ext (W) (W).drew := Ext.drew (Ext.refl _); refine wp_region_held_drew (S := fun w' => ChB 24 (keyed false S (rc + 1) st) p3 w4.heap.size w' ∧ ChB 24 (keyed true S st (rc + 1)) p4 w5.heap.size w') (by kernel_rfl) (hSE _ hExt0) (fun hHeld => ?_)
          refine wpAnyH_take (i := 0) rfl (by kernel_rfl) (by kernel_rfl) (by kernel_rfl) (fun _ _ _ h => h) (R5.take_load (RC6) _ rfl rfl (w4.heap.size) (0) rfl (chCells (keyed false S (rc + 1) st) p3) ((fun w' h => h.1.blk.rd)) (rfl)) hHeld ?_; (try simp only [List.getElem_toArray, List.getElem_cons_succ, List.getElem_cons_zero, Act.put, List.setIfInBounds_toArray, List.set_cons_succ, List.set_cons_zero])
          refine wpAnyH_take (i := 1) rfl (by kernel_rfl) (by kernel_rfl) (by kernel_rfl) (fun _ _ _ h => h) (R5.take_load (RC6) _ rfl rfl (w5.heap.size) (0) rfl (chCells (keyed true S st (rc + 1)) p4) ((fun w' h => h.2.blk.rd)) (rfl)) hHeld ?_; (try simp only [List.getElem_toArray, List.getElem_cons_succ, List.getElem_cons_zero, Act.put, List.setIfInBounds_toArray, List.set_cons_succ, List.set_cons_zero])
          have hA2 := hB.blk.extB hExt0
          have hB2 := hA.blk.extB hExt0
          obtain ⟨hUd, hVd⟩ := hHeld
          refine R5.only_store RC6 2 (by kernel_rfl) rfl rfl _ _ rfl (gA + 1) 0 rfl (chCells (keyed false S (rc + 1) st) p3) rfl 24 _ hA2 rfl (by simp) (chCells_one _ _) ?_
          intro z5 hB5 hM5
          have hU5 := hUd.mut hA2 (chCells_no _ _) hM5 (by omega)
          have hV5 := hVd.mut hA2 (chCells_no _ _) hM5 (by omega)
          have hZ5 := Blk.turn hM5 hB2 (by omega)
          refine ⟨⟨hU5, hV5⟩, ?_⟩
          (try simp only [List.getElem_toArray, List.getElem_cons_succ, List.getElem_cons_zero, Act.put, List.setIfInBounds_toArray, List.set_cons_succ, List.set_cons_zero])
          refine R5.only_store RC6 3 (by kernel_rfl) rfl rfl _ _ rfl (gA) 0 rfl (chCells (keyed true S st (rc + 1)) p4) rfl 24 _ hZ5 rfl (by simp) (chCells_one _ _) ?_
          intro z6 hB6 hM6
          have hU6 := hU5.mut hZ5 (chCells_no _ _) hM6 (by omega)
          have hV6 := hV5.mut hZ5 (chCells_no _ _) hM6 (by omega)
          have hB5 := Blk.turn hM6 hB5 (by omega)
          refine ⟨⟨hU6, hV6⟩, ?_⟩
          (try simp only [List.getElem_toArray, List.getElem_cons_succ, List.getElem_cons_zero, Act.put, List.setIfInBounds_toArray, List.set_cons_succ, List.set_cons_zero])
          refine wpAnyH_done (by kernel_rfl) ?_ _
          have hE4 := hE.trans hExt0
          have hE5 : Ext w z5 := Below.trans hE4 (hM5.below (by omega) hE4.size)
          have hE6 : Ext w z6 := Below.trans hE5 (hM6.below (by omega) hE5.size)
          go_wp2
          go_roundw
          case rel => exact ⟨k + 1, S, st, rc + 1, p4, p3, by omega, by go_num, hSl, by omega, by omega, by omega, by omega, ⟨hB6, hV6.q⟩, ⟨hB5, hU6.q⟩, hE6⟩
          case measure => simp [intOf]; omega
        · skip
          go_wp2_with (first
            | (refine wpList_load_arr (RC6) rfl _ rfl (gA + 1) (0) rfl (chCells (keyed false S rc st) p2) ((hB.blk.rd)) (rfl) ?_)
            | fail)
          (with_reducible refine (talk_send false S X rc st k hSl b3 (by omega) b1 (by omega) (by omega) (by omega) m hm60 _ _ _ _ hB.q.chr hsX hcX).mono ?_)
          rintro e w4 ⟨v, a2, c2, rfl, hv, hR, hcR, hx⟩
          obtain ⟨p3, rfl, q3⟩ := hv.cells
          replace hA := hA.ext hx
          replace hB := hB.ext hx
          replace hE := hE.trans hx
          (try replace hsX := hsX.ext hx)
          (try replace hF := hF.ext hx)
          (try replace hR := hR.ext hx)
          (try replace hY := hY.ext hx)
          (try replace hC := hC.ext hx)
          clear hx hv
          have HN0 := hB.blk.lt
          go_wp2_with (first
            | (refine wpList_alloc_store (RC6) rfl rfl _ _ rfl rfl rfl rfl (by simp [Act.put]) (chCells (keyed false S (rc + 1) st) p3) rfl (by simp) (rfl) ((chCells_one _ _)) ?_; intro x hz _)
            | (refine wpList_load_arr (RC6) rfl _ rfl (gA) (0) rfl (chCells (keyed true S st rc) p1) (((hA.blk.extB (by repeat (first | (with_reducible first | exact Ext.refl _ | assumption | apply Ext.alloc | apply Ext.ext | apply Ext.drew | refine Ext.setCell ?_ ?_ _) | (focus (simp [go_sem]; done))))).rd)) (rfl) ?_)
            | fail)
          obtain ⟨W, hW⟩ : ∃ W, W = w4.ext x := ⟨_, rfl⟩
          rw [← hW] at hz ⊢
          have hx : Ext w4 W := by rw [hW]; exact Ext.of_ext _ _
          have hC : ChB 24 (keyed false S (rc + 1) st) p3 w4.heap.size W := ⟨hz, q3.ext hx⟩
          clear hW hz q3
          replace hA := hA.ext hx
          replace hB := hB.ext hx
          replace hE := hE.trans hx
          (try replace hsX := hsX.ext hx)
          (try replace hF := hF.ext hx)
          (try replace hR := hR.ext hx)
          (try replace hY := hY.ext hx)
          (try replace hC := hC.ext hx)
          clear hx
          (with_reducible refine (talk_recv false true rfl S X rc st st k hSl b3 (by omega) b1 (by omega) (by omega) (by omega) m hm60 hsX.len _ _ _ _ hA.q.chr hR hcR).mono ?_)
          rintro e w5 ⟨v, a3, c3, rfl, hv, hY, hcY, hx⟩
          obtain ⟨p4, rfl, q4⟩ := hv.cells
          replace hA := hA.ext hx
          replace hB := hB.ext hx
          replace hE := hE.trans hx
          (try replace hsX := hsX.ext hx)
          (try replace hF := hF.ext hx)
          (try replace hR := hR.ext hx)
          (try replace hY := hY.ext hx)
          (try replace hC := hC.ext hx)
          clear hx hv
          have hC0 := hC.blk.lt
          have sm := fun W h1 h2 => same_any a1 a3 m c1 m c3 X X W h1 h2
          simp only [beq_self_eq_true] at sm
          go_wp2_with (first
            | (refine wpList_alloc_store (RC6) rfl rfl _ _ rfl rfl rfl rfl (by simp [Act.put]) (chCells (keyed true S st (rc + 1)) p4) rfl (by simp) (rfl) ((chCells_one _ _)) ?_; intro x hz _)
            | (go_at_call 26; (with_reducible refine (sm ?_ ?hq253 ?hq254).mono ?_); (case hq253 => (repeat' (first | with_reducible assumption | (with_reducible exact zeros16 _) | (with_reducible exact sl_new1 _ _ _) | (with_reducible first | apply Sl.upE | apply Sl.upA | apply Sl.upD)))); (case hq254 => (repeat' (first | with_reducible assumption | (with_reducible exact zeros16 _) | (with_reducible exact sl_new1 _ _ _) | (with_reducible first | apply Sl.upE | apply Sl.upA | apply Sl.upD)))); rintro e w1 ⟨rfl, hxq⟩; obtain ⟨xq, rfl⟩ := hxq.out; clear hxq)
            | fail)
          obtain ⟨W, hW⟩ : ∃ W, W = (w5.ext x).ext xq := ⟨_, rfl⟩
          have hx : Ext w5 W := by rw [hW]; exact (Ext.of_ext _ _).ext _
          have hz := hz.extB (Ext.of_ext _ xq)
          rw [← hW] at hz ⊢
          have hD : ChB 24 (keyed true S st (rc + 1)) p4 w5.heap.size W := ⟨hz, q4.ext hx⟩
          clear hW hz q4
          replace hA := hA.ext hx
          replace hB := hB.ext hx
          replace hE := hE.trans hx
          (try replace hsX := hsX.ext hx)
          (try replace hF := hF.ext hx)
          (try replace hR := hR.ext hx)
          (try replace hY := hY.ext hx)
          (try replace hC := hC.ext hx)
          clear hx sm
          have hSE : ∀ w', Ext (W) w' → (fun w' => ChB 24 (keyed false S (rc + 1) st) p3 w4.heap.size w' ∧ ChB 24 (keyed true S st (rc + 1)) p4 w5.heap.size w') w' := (fun w' h => ⟨hC.ext h, hD.ext h⟩); have hExt0 : Ext (W) (W).drew := Ext.drew (Ext.refl _); refine wp_region_held_drew (S := fun w' => ChB 24 (keyed false S (rc + 1) st) p3 w4.heap.size w' ∧ ChB 24 (keyed true S st (rc + 1)) p4 w5.heap.size w') (by kernel_rfl) (hSE _ hExt0) (fun hHeld => ?_)
          refine wpAnyH_take (i := 0) rfl (by kernel_rfl) (by kernel_rfl) (by kernel_rfl) (fun _ _ _ h => h) (R5.take_load (RC6) _ rfl rfl (w4.heap.size) (0) rfl (chCells (keyed false S (rc + 1) st) p3) ((fun w' h => h.1.blk.rd)) (rfl)) hHeld ?_; (try simp only [List.getElem_toArray, List.getElem_cons_succ, List.getElem_cons_zero, Act.put, List.setIfInBounds_toArray, List.set_cons_succ, List.set_cons_zero])
          refine wpAnyH_take (i := 1) rfl (by kernel_rfl) (by kernel_rfl) (by kernel_rfl) (fun _ _ _ h => h) (R5.take_load (RC6) _ rfl rfl (w5.heap.size) (0) rfl (chCells (keyed true S st (rc + 1)) p4) ((fun w' h => h.2.blk.rd)) (rfl)) hHeld ?_; (try simp only [List.getElem_toArray, List.getElem_cons_succ, List.getElem_cons_zero, Act.put, List.setIfInBounds_toArray, List.set_cons_succ, List.set_cons_zero])
          have hA2 := hB.blk.extB hExt0
          have hB2 := hA.blk.extB hExt0
          obtain ⟨hUd, hVd⟩ := hHeld
          refine R5.only_store RC6 2 (by kernel_rfl) rfl rfl _ _ rfl (gA + 1) 0 rfl (chCells (keyed false S (rc + 1) st) p3) rfl 24 _ hA2 rfl (by simp) (chCells_one _ _) ?_
          intro z5 hB5 hM5
          have hU5 := hUd.mut hA2 (chCells_no _ _) hM5 (by omega)
          have hV5 := hVd.mut hA2 (chCells_no _ _) hM5 (by omega)
          have hZ5 := Blk.turn hM5 hB2 (by omega)
          refine ⟨⟨hU5, hV5⟩, ?_⟩
          (try simp only [List.getElem_toArray, List.getElem_cons_succ, List.getElem_cons_zero, Act.put, List.setIfInBounds_toArray, List.set_cons_succ, List.set_cons_zero])
          refine R5.only_store RC6 3 (by kernel_rfl) rfl rfl _ _ rfl (gA) 0 rfl (chCells (keyed true S st (rc + 1)) p4) rfl 24 _ hZ5 rfl (by simp) (chCells_one _ _) ?_
          intro z6 hB6 hM6
          have hU6 := hU5.mut hZ5 (chCells_no _ _) hM6 (by omega)
          have hV6 := hV5.mut hZ5 (chCells_no _ _) hM6 (by omega)
          have hB5 := Blk.turn hM6 hB5 (by omega)
          refine ⟨⟨hU6, hV6⟩, ?_⟩
          (try simp only [List.getElem_toArray, List.getElem_cons_succ, List.getElem_cons_zero, Act.put, List.setIfInBounds_toArray, List.set_cons_succ, List.set_cons_zero])
          refine wpAnyH_done (by kernel_rfl) ?_ _
          have hE4 := hE.trans hExt0
          have hE5 : Ext w z5 := Below.trans hE4 (hM5.below (by omega) hE4.size)
          have hE6 : Ext w z6 := Below.trans hE5 (hM6.below (by omega) hE5.size)
          go_wp2
          go_roundw
          case rel => exact ⟨k + 1, S, st, rc + 1, p4, p3, by omega, by go_num, hSl, by omega, by omega, by omega, by omega, ⟨hB6, hV6.q⟩, ⟨hB5, hU6.q⟩, hE6⟩
          case measure => simp [intOf]; omega
      · have hkk : k = n := by omega
        subst hkk
        have hki : ¬ (k : Int) < (k : Int) := by omega
        have v1 := fun v W h => valid_any v (keyed true S st rc) W h (show S.length ≤ 1000000 by omega)
        have v2 := fun v W h => valid_any v (keyed false S rc st) W h (show S.length ≤ 1000000 by omega)
        rw [keyed_valid (fit_keyed.2 ⟨hSl, b1, by omega, b3, by omega⟩)] at v1
        rw [keyed_valid (fit_keyed.2 ⟨hSl, b3, by omega, b1, by omega⟩)] at v2
        haveI := hA.blk.blt
        haveI := hB.blk.blt
        have f1 : wr.cell? ⟨gA, 4, none⟩ = some (.int .i64 st) := hA.blk.cell? 4 rfl
        have f2 : wr.cell? ⟨gA + 1, 5, none⟩ = some (.int .i64 st) := hB.blk.cell? 5 rfl
        have f3 : wr.cell? ⟨gA + 1, 4, none⟩ = some (.int .i64 rc) := hB.blk.cell? 4 rfl
        have f4 : wr.cell? ⟨gA, 5, none⟩ = some (.int .i64 rc) := hA.blk.cell? 5 rfl
        have cA := hA.q.chr
        have cB := hB.q.chr
        go_wp2_with (first
          | (go_at_call 25; refine (hkn _).mono ?_; rintro e w1 ⟨rfl, hxq⟩; obtain ⟨xq, rfl⟩ := hxq.out; clear hxq)
          | (go_at_call 51; (with_reducible refine (v1 ?_ ?_ ?hq255).mono ?_); (case hq255 => (repeat' (first | with_reducible assumption | (with_reducible first | apply ChR.upE | apply ChR.upA | apply ChR.upD)))); rintro e w1 ⟨rfl, hxq⟩; obtain ⟨xq, rfl⟩ := hxq.out; clear hxq)
          | (go_at_call 51; (with_reducible refine (v2 ?_ ?_ ?hq256).mono ?_); (case hq256 => (repeat' (first | with_reducible assumption | (with_reducible first | apply ChR.upE | apply ChR.upA | apply ChR.upD)))); rintro e w1 ⟨rfl, hxq⟩; obtain ⟨xq, rfl⟩ := hxq.out; clear hxq)
          | (refine wpList_wanted (by simp [Region.wanted, yielded, Act.put]) ?_; (refine wpList_load_arr (RC6) rfl _ rfl (gA) (0) rfl (chCells (keyed true S st rc) p1) (((hA.blk.extB (by repeat (first | (with_reducible first | exact Ext.refl _ | assumption | apply Ext.alloc | apply Ext.ext | apply Ext.drew | refine Ext.setCell ?_ ?_ _) | (focus (simp [go_sem]; done))))).rd)) (rfl) ?_))
          | (refine wpList_wanted (by simp [Region.wanted, yielded, Act.put]) ?_; (refine wpList_load_arr (RC6) rfl _ rfl (gA + 1) (0) rfl (chCells (keyed false S rc st) p2) (((hB.blk.extB (by repeat (first | (with_reducible first | exact Ext.refl _ | assumption | apply Ext.alloc | apply Ext.ext | apply Ext.drew | refine Ext.setCell ?_ ?_ _) | (focus (simp [go_sem]; done))))).rd)) (rfl) ?_))
          | fail)
        go_ret
        exact ⟨rfl, hE.trans (by repeat (first | (with_reducible first | exact Ext.refl _ | assumption | apply Ext.alloc | apply Ext.ext | apply Ext.drew | refine Ext.setCell ?_ ?_ _) | (focus (simp [go_sem]; done))))⟩
end Go.Proofs.Ytkjdlbjbppbmdaa
