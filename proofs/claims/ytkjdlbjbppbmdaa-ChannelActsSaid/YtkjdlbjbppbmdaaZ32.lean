/- Lemmas of this claim, several texts joined. -/
import Derived.Lib.SlBytesConst
import Derived.Test.YtkjdlbjbppbmdaaZ12
import Derived.Test.YtkjdlbjbppbmdaaZ31
set_option linter.unusedVariables false
set_option linter.unusedSimpArgs false
/- The walks of layer 20 of the document: keys, Begin, Valid, Export, Renew. -/
namespace Go.Proofs.Ytkjdlbjbppbmdaa
open Go.RowKit Go.Sec Go.Oct Go.Sha Go.Aes Go.Chan BigFrame

theorem rd_marked (w : World) (cs : Array Value) (t : TypeId) (fr : Nat × Nat) : Rd (w.alloc (.cells cs t fr)) (some ⟨w.heap.size, 0, none⟩) cs.toList :=
  .inr ⟨w.heap.size, 0, rfl, by simp, fun k v hk => by rw [Nat.zero_add, cell_of_row _ w.heap.size k cs t fr (heap_alloc_new w _)]; simpa using hk⟩
theorem sl_upS (w : World) (t : TypeId) (fr : Nat × Nat) : Sl (w.alloc (.cells #[.int .u8 115, .int .u8 101, .int .u8 99, .int .u8 116, .int .u8 105, .int .u8 109, .int .u8 101, .int .u8 32, .int .u8 117, .int .u8 112] t fr)) (some ⟨w.heap.size, 0, none⟩) 10 upS := ⟨rfl, rd_marked w #[.int .u8 115, .int .u8 101, .int .u8 99, .int .u8 116, .int .u8 105, .int .u8 109, .int .u8 101, .int .u8 32, .int .u8 117, .int .u8 112] t fr⟩
theorem sl_downS (w : World) (t : TypeId) (fr : Nat × Nat) : Sl (w.alloc (.cells #[.int .u8 115, .int .u8 101, .int .u8 99, .int .u8 116, .int .u8 105, .int .u8 109, .int .u8 101, .int .u8 32, .int .u8 100, .int .u8 111, .int .u8 119, .int .u8 110] t fr)) (some ⟨w.heap.size, 0, none⟩) 12 downS := ⟨rfl, rd_marked w #[.int .u8 115, .int .u8 101, .int .u8 99, .int .u8 116, .int .u8 105, .int .u8 109, .int .u8 101, .int .u8 32, .int .u8 100, .int .u8 111, .int .u8 119, .int .u8 110] t fr⟩

set_option maxRecDepth 100000 in
set_option maxHeartbeats 4000000 in
theorem rkeyed_any (cl : Bool) (a : Option Addr) (n c : Nat) (s : List UInt8) (w : World) (h : Sl w a n s) (hnc : n ≤ c) (hn : n ≤ 1000000) :
    Calls Try.prog 118 #[.bool cl, .slice a n c] w (ChP (keyed cl s 0 0) w) := by
  have hcv1 := Lib.run_convert_bytes_const (P := Try.prog) (w.alloc (.cells #[.bool false, .slice none 0 0, .slice none 0 0, .slice none 0 0, .int .i64 0, .int .i64 0] 24)) 22 5 #[.int .u8 115, .int .u8 101, .int .u8 99, .int .u8 116, .int .u8 105, .int .u8 109, .int .u8 101, .int .u8 32, .int .u8 117, .int .u8 112] 10 10 U.sl hu8
  rw [World.size_alloc] at hcv1
  have hcv2 := fun W => Lib.run_convert_bytes_const (P := Try.prog) W 22 5 #[.int .u8 115, .int .u8 101, .int .u8 99, .int .u8 116, .int .u8 105, .int .u8 109, .int .u8 101, .int .u8 32, .int .u8 100, .int .u8 111, .int .u8 119, .int .u8 110] 12 12 U.sl hu8
  have hz := Blk.new w #[.bool false, .slice none 0 0, .slice none 0 0, .slice none 0 0, .int .i64 0, .int .i64 0] 24
  have hx0 := Ext.of_alloc w (.cells #[.bool false, .slice none 0 0, .slice none 0 0, .slice none 0 0, .int .i64 0, .int .i64 0] 24)
  cases cl
  all_goals
    go_enter Try.func118, Try.ntmps118
    go_wp2_with fail
    have hxa := Ext.of_alloc (w.alloc (.cells #[.bool false, .slice none 0 0, .slice none 0 0, .slice none 0 0, .int .i64 0, .int .i64 0] 24)) (.cells #[.int .u8 115, .int .u8 101, .int .u8 99, .int .u8 116, .int .u8 105, .int .u8 109, .int .u8 101, .int .u8 32, .int .u8 117, .int .u8 112] 5 (10, 11))
    have h0 := (h.ext hx0).ext hxa
    have hS0 := sl_upS (w.alloc (.cells #[.bool false, .slice none 0 0, .slice none 0 0, .slice none 0 0, .int .i64 0, .int .i64 0] 24)) 5 (10, 11)
    rw [World.size_alloc] at hS0
    clear hcv1
    (with_reducible refine (rexpand_any _ _ n c 10 _ 32 (rfl : (32 : Int) = ((32 : Nat) : Int)) s upS _ h0 hnc hn hS0 (by decide) (by decide)).mono ?_)
    rintro e w1 ⟨b1, d1, rfl, hS1, hd1, hx1⟩
    have hz1 := (hz.alloc (.cells #[.int .u8 115, .int .u8 101, .int .u8 99, .int .u8 116, .int .u8 105, .int .u8 109, .int .u8 101, .int .u8 32, .int .u8 117, .int .u8 112] 5 (10, 11))).extB hx1
    go_wp2_with fail
    have hxb := Ext.of_alloc w1 (.cells #[.int .u8 115, .int .u8 101, .int .u8 99, .int .u8 116, .int .u8 105, .int .u8 109, .int .u8 101, .int .u8 32, .int .u8 100, .int .u8 111, .int .u8 119, .int .u8 110] 5 (12, 13))
    have h1 := (h0.ext hx1).ext hxb
    (with_reducible refine (rexpand_any _ _ n c 12 _ 32 (rfl : (32 : Int) = ((32 : Nat) : Int)) s downS _ h1 hnc hn (sl_downS w1 5 (12, 13)) (by decide) (by decide)).mono ?_)
    rintro e w2 ⟨b2, d2, rfl, hS2, hd2, hx2⟩
    have hx12 := hxb.trans hx2
    have hz2 := hz1.extB hx12
    have hE2 : Ext w w2 := ((hx0.trans hxa).trans hx1).trans hx12
    have h2 := h1.ext hx2
    have hS1 := hS1.ext hx12
    haveI := hz2.blt
  · go_wp2_with (first
      | (refine wpList_store_arr (RC6) rfl _ _ rfl (w.heap.size) (0) rfl ([.bool false, .slice a n c, .slice b2 32 d2, .slice b1 32 d1, .int .i64 0, .int .i64 0]) rfl (24) _ (hz2) (rfl) (by simp) (by first | exact one_u8 _ | (simp; done) | (simp; (repeat' (first | rfl | constructor)))) ?_; intro w9 hB9 hM9)
      | fail)
    refine bodyPost_ret (results_arr Try.results118 (RC6) _ _ (w.heap.size) (0) ([.bool false, .slice a n c, .slice b2 32 d2, .slice b1 32 d1, .int .i64 0, .int .i64 0]) rfl (hB9.rd) (rfl)) rfl ?_
    exact ⟨_, rfl, ChR.mk (c := keyed false s 0 0) (Sl.mut h2 hz2 (by simp) hM9) hnc (Sl.mut hS2 hz2 (by simp) hM9) hd2 (Sl.mut hS1 hz2 (by simp) hM9) hd1, Below.trans hE2 (hM9.below (Nat.le_refl _) hE2.size)⟩
  · go_wp2_with (first
      | (refine wpList_store_arr (RC6) rfl _ _ rfl (w.heap.size) (0) rfl ([.bool true, .slice a n c, .slice b1 32 d1, .slice b2 32 d2, .int .i64 0, .int .i64 0]) rfl (24) _ (hz2) (rfl) (by simp) (by first | exact one_u8 _ | (simp; done) | (simp; (repeat' (first | rfl | constructor)))) ?_; intro w9 hB9 hM9)
      | fail)
    refine bodyPost_ret (results_arr Try.results118 (RC6) _ _ (w.heap.size) (0) ([.bool true, .slice a n c, .slice b1 32 d1, .slice b2 32 d2, .int .i64 0, .int .i64 0]) rfl (hB9.rd) (rfl)) rfl ?_
    exact ⟨_, rfl, ChR.mk (c := keyed true s 0 0) (Sl.mut h2 hz2 (by simp) hM9) hnc (Sl.mut hS1 hz2 (by simp) hM9) hd1 (Sl.mut hS2 hz2 (by simp) hM9) hd2, Below.trans hE2 (hM9.below (Nat.le_refl _) hE2.size)⟩

set_option maxRecDepth 100000 in
set_option maxHeartbeats 4000000 in
theorem rbegin_any (cl : Bool) (a b : Option Addr) (n c m d : Nat) (secret hello : List UInt8) (w : World) (h : Sl w a n secret) (hnc : n ≤ c) (hl : Sl w b m hello) (hmd : m ≤ d) (hm : m ≤ 1000000) :
    Calls Try.prog 62 #[.bool cl, .slice a n c, .slice b m d] w fun e w' => ∃ v, e = .returned (.tuple #[v, .int .i64 (beginE cl secret hello).2]) ∧ ChR w' v (beginE cl secret hello).1 ∧ Ext w w' := by
  have hll := h.len
  by_cases h1 : secret.length < 16
  · have e : beginE cl secret hello = (zeroCh, 5) := by unfold beginE; rw [if_pos (.inl h1)]
    rw [e]
    have hI1 : (n : Int) < 16 := by omega
    clear hll e
    go_enter Try.func62, Try.ntmps62
    go_wp2_with fail
    refine bodyPost_ret (v := .tuple #[.agg #[.bool false, .slice none 0 0, .slice none 0 0, .slice none 0 0, .int .i64 0, .int .i64 0], .int .i64 5]) (by simp [results, Try.results62, go_sem]) rfl ?_
    exact ⟨_, rfl, ChR.zero _, (by repeat (first | (with_reducible first | exact Ext.refl _ | assumption | apply Ext.alloc | apply Ext.ext | apply Ext.drew | refine Ext.setCell ?_ ?_ _) | (focus (simp [go_sem]; done))))⟩
  · by_cases h2 : 65535 < secret.length
    · have e : beginE cl secret hello = (zeroCh, 5) := by unfold beginE; rw [if_pos (.inr h2)]
      rw [e]
      have hI1 : ¬ (n : Int) < 16 := by omega
      have hI2 : (65535 : Int) < (n : Int) := by omega
      clear hll e
      go_enter Try.func62, Try.ntmps62
      go_wp2_with fail
      refine bodyPost_ret (v := .tuple #[.agg #[.bool false, .slice none 0 0, .slice none 0 0, .slice none 0 0, .int .i64 0, .int .i64 0], .int .i64 5]) (by simp [results, Try.results62, go_sem]) rfl ?_
      exact ⟨_, rfl, ChR.zero _, (by repeat (first | (with_reducible first | exact Ext.refl _ | assumption | apply Ext.alloc | apply Ext.ext | apply Ext.drew | refine Ext.setCell ?_ ?_ _) | (focus (simp [go_sem]; done))))⟩
    · have e := Lib.hid (show beginE cl secret hello = (keyed cl (hmac (sha hello) secret) 0 0, 0) by unfold beginE; rw [if_neg (by omega)])
      have hI1 : ¬ (n : Int) < 16 := by omega
      have hI2 : ¬ (65535 : Int) < (n : Int) := by omega
      have hn : n ≤ 65535 := by omega
      clear hll
      rw [e.out]
      generalize hky : hmac (sha hello) secret = ky at e ⊢
      go_enter Try.func62, Try.ntmps62
      go_wp2_with fail; (with_reducible refine (sum_any _ _ _ hello _ (hl.ext (Ext.of_alloc _ _)) hmd hm).mono ?_); rintro e w1 ⟨a1, c1, rfl, hO1, hx1⟩
      have hle1 := hO1.le
      have hE1 : Ext w w1 := (Ext.of_alloc _ _).trans hx1
      go_wp2_with fail; (with_reducible refine (rextract_any _ _ _ _ _ _ _ _ _ hO1.sl hle1.1 (by omega) (h.ext hE1) (by omega)).mono ?_); rintro e w2 ⟨a2, c2, rfl, hO2, hx2⟩
      have hle2 := hO2.le
      have hE2 := hE1.trans hx2
      rw [hky] at hO2
      clear hky e
      go_wp2_with fail
      (with_reducible refine (rkeyed_any cl _ _ _ ky _ hO2.sl hle2.1 (by omega)).mono ?_)
      rintro e w3 ⟨v, rfl, hv, hx3⟩
      obtain ⟨b1, d1, b2, d2, b3, d3, rfl, h1, k1, h2, k2, h3, k3⟩ := hv
      have hR := ((Blk.new w #[.bool false, .slice none 0 0, .slice none 0 0, .slice none 0 0, .int .i64 0, .int .i64 0] 24).extB hx1).extB (hx2.trans hx3)
      haveI := hR.blt
      go_wp2_with (first
        | (refine wpList_store_arr (RC6) rfl _ _ rfl (w.heap.size) (0) rfl ([.bool (keyed cl ky 0 0).cl, .slice b1 (keyed cl ky 0 0).sec.length d1, .slice b2 (keyed cl ky 0 0).snd.length d2, .slice b3 (keyed cl ky 0 0).rcv.length d3, .int .i64 (keyed cl ky 0 0).st, .int .i64 (keyed cl ky 0 0).rc]) rfl (24) _ (hR) (rfl) (by simp) (by first | exact one_u8 _ | (simp; done) | (simp; (repeat' (first | rfl | constructor)))) ?_; intro w9 hB9 hM9)
        | fail)
      refine bodyPost_ret (results_arr_tmp Try.results62 (RC6) _ _ (w.heap.size) (0) ([.bool (keyed cl ky 0 0).cl, .slice b1 (keyed cl ky 0 0).sec.length d1, .slice b2 (keyed cl ky 0 0).snd.length d2, .slice b3 (keyed cl ky 0 0).rcv.length d3, .int .i64 (keyed cl ky 0 0).st, .int .i64 (keyed cl ky 0 0).rc]) rfl (hB9.rd) (rfl) (.int .i64 0) rfl) rfl ?_
      have hE3 := hE2.trans hx3
      exact ⟨_, rfl, ChR.mk (c := keyed cl ky 0 0) (Sl.mut h1 hR (by simp) hM9) k1 (Sl.mut h2 hR (by simp) hM9) k2 (Sl.mut h3 hR (by simp) hM9) k3, Below.trans hE3 (hM9.below (Nat.le_refl _) hE3.size)⟩


set_option maxRecDepth 100000 in
set_option maxHeartbeats 4000000 in
theorem rvalid_any (v : Value) (ch : Ch) (w : World) (hv : ChR w v ch) (hs : ch.sec.length ≤ 1000000) :
    Calls Try.prog 67 #[v] w fun e w' => e = .returned (.bool (validC ch)) ∧ Ext w w' := by
  obtain ⟨a1, c1, a2, c2, a3, c3, rfl, h1, k1, h2, k2, h3, k3⟩ := hv
  by_cases n32 : ch.sec.length = 32
  · by_cases q1 : ch.st < 0
    · rw [validC_no (fun h => by unfold fitC at h; omega)]
      have hI : (((ch.sec.length : Nat) : Int) != 32) = false := by rw [bne_eq_false_iff_eq]; omega
      clear n32
      go_enter Try.func67, Try.ntmps67
      go_wp2_with fail
      go_ret
      exact ⟨rfl, (by repeat (first | (with_reducible first | exact Ext.refl _ | assumption | apply Ext.alloc | apply Ext.ext | apply Ext.drew | refine Ext.setCell ?_ ?_ _) | (focus (simp [go_sem]; done))))⟩
    · by_cases q2 : 1099511627776 < ch.st
      · rw [validC_no (fun h => by unfold fitC at h; omega)]
        have hI : (((ch.sec.length : Nat) : Int) != 32) = false := by rw [bne_eq_false_iff_eq]; omega
        clear n32
        go_enter Try.func67, Try.ntmps67
        go_wp2_with fail
        go_ret
        exact ⟨rfl, (by repeat (first | (with_reducible first | exact Ext.refl _ | assumption | apply Ext.alloc | apply Ext.ext | apply Ext.drew | refine Ext.setCell ?_ ?_ _) | (focus (simp [go_sem]; done))))⟩
      · by_cases q3 : ch.rc < 0
        · rw [validC_no (fun h => by unfold fitC at h; omega)]
          have hI : (((ch.sec.length : Nat) : Int) != 32) = false := by rw [bne_eq_false_iff_eq]; omega
          clear n32
          go_enter Try.func67, Try.ntmps67
          go_wp2_with fail
          go_ret
          exact ⟨rfl, (by repeat (first | (with_reducible first | exact Ext.refl _ | assumption | apply Ext.alloc | apply Ext.ext | apply Ext.drew | refine Ext.setCell ?_ ?_ _) | (focus (simp [go_sem]; done))))⟩
        · by_cases q4 : 1099511627776 < ch.rc
          · rw [validC_no (fun h => by unfold fitC at h; omega)]
            have hI : (((ch.sec.length : Nat) : Int) != 32) = false := by rw [bne_eq_false_iff_eq]; omega
            clear n32
            go_enter Try.func67, Try.ntmps67
            go_wp2_with fail
            go_ret
            exact ⟨rfl, (by repeat (first | (with_reducible first | exact Ext.refl _ | assumption | apply Ext.alloc | apply Ext.ext | apply Ext.drew | refine Ext.setCell ?_ ?_ _) | (focus (simp [go_sem]; done))))⟩
          · have e := Lib.hid (validC_eq (c := ch) (by unfold fitC; omega))
            have hI : (((ch.sec.length : Nat) : Int) != 32) = false := by rw [bne_eq_false_iff_eq]; omega
            clear n32
            go_enter Try.func67, Try.ntmps67
            go_wp2_with fail
            (with_reducible refine (rkeyed_any ch.cl _ _ _ ch.sec _ (h1.ext (Ext.of_alloc _ _)) k1 hs).mono ?_)
            rintro e w3 ⟨v, rfl, hv, hx3⟩
            obtain ⟨b1, d1, b2, d2, b3, d3, rfl, g1, q1, g2, q2, g3, q3⟩ := hv
            have H2 := (h2.ext (Ext.of_alloc w (.cells #[.bool ch.cl, .slice a1 ch.sec.length c1, .slice a2 ch.snd.length c2, .slice a3 ch.rcv.length c3, .int .i64 ch.st, .int .i64 ch.rc] 24))).ext hx3
            have H3 := (h3.ext (Ext.of_alloc w (.cells #[.bool ch.cl, .slice a1 ch.sec.length c1, .slice a2 ch.snd.length c2, .slice a3 ch.rcv.length c3, .int .i64 ch.st, .int .i64 ch.rc] 24))).ext hx3
            have hR : Blk w3 w.heap.size 24 [.bool ch.cl, .slice a1 ch.sec.length c1, .slice a2 ch.snd.length c2, .slice a3 ch.rcv.length c3, .int .i64 ch.st, .int .i64 ch.rc] := (Blk.new w #[.bool ch.cl, .slice a1 ch.sec.length c1, .slice a2 ch.snd.length c2, .slice a3 ch.rcv.length c3, .int .i64 ch.st, .int .i64 ch.rc] 24).extB hx3
            haveI := hR.blt
            have c0 := hR.cell? 2 rfl
            have c00 := hR.cell? 3 rfl
            have hE3 : Ext w w3 := (Ext.of_alloc _ _).trans hx3
            have hs1 := same_any b2 a2 (keyed ch.cl ch.sec 0 0).snd.length d2 ch.snd.length c2 (keyed ch.cl ch.sec 0 0).snd ch.snd
            have hs2 := same_any b3 a3 (keyed ch.cl ch.sec 0 0).rcv.length d3 ch.rcv.length c3 (keyed ch.cl ch.sec 0 0).rcv ch.rcv
            clear h1 h2 h3
            cases hb1 : ((keyed ch.cl ch.sec 0 0).snd == ch.snd)
            · rw [hb1] at hs1
              have e2 := Lib.hid (show validC ch = false by rw [e.out, show (keyed ch.cl ch.sec ch.st ch.rc).snd = (keyed ch.cl ch.sec 0 0).snd from rfl, hb1]; rfl)
              clear e hb1
              go_wp2_with (first
                | (refine wpList_alloc_store (RC6) rfl rfl _ _ rfl rfl rfl rfl (by simp [Act.put]) ([.bool (keyed ch.cl ch.sec 0 0).cl, .slice b1 (keyed ch.cl ch.sec 0 0).sec.length d1, .slice b2 (keyed ch.cl ch.sec 0 0).snd.length d2, .slice b3 (keyed ch.cl ch.sec 0 0).rcv.length d3, .int .i64 (keyed ch.cl ch.sec 0 0).st, .int .i64 (keyed ch.cl ch.sec 0 0).rc]) rfl (by simp) (rfl) ((by simp; repeat' (first | rfl | constructor))) ?_; intro x hBx _); (have f1 := hBx.cell? 2 rfl); (have f2 := hBx.cell? 3 rfl)
                | (go_at_call 26; (with_reducible refine (hs1 ?_ ?hq187 ?hq188).mono ?_); (case hq187 => (repeat' (first | with_reducible assumption | (with_reducible exact zeros16 _) | (with_reducible exact sl_new1 _ _ _) | (with_reducible first | apply Sl.upE | apply Sl.upA | apply Sl.upD)))); (case hq188 => (repeat' (first | with_reducible assumption | (with_reducible exact zeros16 _) | (with_reducible exact sl_new1 _ _ _) | (with_reducible first | apply Sl.upE | apply Sl.upA | apply Sl.upD)))); rintro e w1 ⟨rfl, hxq⟩; obtain ⟨xq, rfl⟩ := hxq.out; clear hxq)
                | fail)
              go_ret
              exact ⟨by rw [e2.out]; rfl, (by repeat (first | (with_reducible first | exact Ext.refl _ | assumption | apply Ext.alloc | apply Ext.ext | apply Ext.drew | refine Ext.setCell ?_ ?_ _) | (focus (simp [go_sem]; done))))⟩
            · rw [hb1] at hs1
              cases hb2 : ((keyed ch.cl ch.sec 0 0).rcv == ch.rcv)
              all_goals
                rw [hb2] at hs2
                have e2 := Lib.hid (show validC ch = _ by rw [e.out, show (keyed ch.cl ch.sec ch.st ch.rc).snd = (keyed ch.cl ch.sec 0 0).snd from rfl, show (keyed ch.cl ch.sec ch.st ch.rc).rcv = (keyed ch.cl ch.sec 0 0).rcv from rfl, hb1, hb2])
                clear e hb1 hb2
                go_wp2_with (first
                  | (refine wpList_alloc_store (RC6) rfl rfl _ _ rfl rfl rfl rfl (by simp [Act.put]) ([.bool (keyed ch.cl ch.sec 0 0).cl, .slice b1 (keyed ch.cl ch.sec 0 0).sec.length d1, .slice b2 (keyed ch.cl ch.sec 0 0).snd.length d2, .slice b3 (keyed ch.cl ch.sec 0 0).rcv.length d3, .int .i64 (keyed ch.cl ch.sec 0 0).st, .int .i64 (keyed ch.cl ch.sec 0 0).rc]) rfl (by simp) (rfl) ((by simp; repeat' (first | rfl | constructor))) ?_; intro x hBx _); (have f1 := hBx.cell? 2 rfl); (have f2 := hBx.cell? 3 rfl)
                  | (go_at_call 26; (with_reducible refine (hs1 ?_ ?hq189 ?hq190).mono ?_); (case hq189 => (repeat' (first | with_reducible assumption | (with_reducible exact zeros16 _) | (with_reducible exact sl_new1 _ _ _) | (with_reducible first | apply Sl.upE | apply Sl.upA | apply Sl.upD)))); (case hq190 => (repeat' (first | with_reducible assumption | (with_reducible exact zeros16 _) | (with_reducible exact sl_new1 _ _ _) | (with_reducible first | apply Sl.upE | apply Sl.upA | apply Sl.upD)))); rintro e w1 ⟨rfl, hxq⟩; obtain ⟨xq, rfl⟩ := hxq.out; clear hxq)
                  | (go_at_call 26; (with_reducible refine (hs2 ?_ ?hq191 ?hq192).mono ?_); (case hq191 => (repeat' (first | with_reducible assumption | (with_reducible exact zeros16 _) | (with_reducible exact sl_new1 _ _ _) | (with_reducible first | apply Sl.upE | apply Sl.upA | apply Sl.upD)))); (case hq192 => (repeat' (first | with_reducible assumption | (with_reducible exact zeros16 _) | (with_reducible exact sl_new1 _ _ _) | (with_reducible first | apply Sl.upE | apply Sl.upA | apply Sl.upD)))); rintro e w1 ⟨rfl, hxq⟩; obtain ⟨xq, rfl⟩ := hxq.out; clear hxq)
                  | fail)
                go_ret
                exact ⟨by rw [e2.out]; rfl, (by repeat (first | (with_reducible first | exact Ext.refl _ | assumption | apply Ext.alloc | apply Ext.ext | apply Ext.drew | refine Ext.setCell ?_ ?_ _) | (focus (simp [go_sem]; done))))⟩
  · rw [validC_no (fun h => n32 h.1)]
    have hI : (((ch.sec.length : Nat) : Int) != 32) = true := by rw [bne_iff_ne]; omega
    clear n32
    go_enter Try.func67, Try.ntmps67
    go_wp2_with fail
    go_ret
    exact ⟨rfl, (by repeat (first | (with_reducible first | exact Ext.refl _ | assumption | apply Ext.alloc | apply Ext.ext | apply Ext.drew | refine Ext.setCell ?_ ?_ _) | (focus (simp [go_sem]; done))))⟩

set_option maxRecDepth 100000 in
set_option maxHeartbeats 4000000 in
theorem rrenew_any (v : Value) (ch : Ch) (b : Option Addr) (m d : Nat) (fresh : List UInt8) (w : World) (hv : ChR w v ch) (hs : ch.sec.length ≤ 1000000) (hl : Sl w b m fresh) (hmd : m ≤ d) (hm : m ≤ 1000000) :
    Calls Try.prog 66 #[v, .slice b m d] w fun e w' => ∃ v', e = .returned (.tuple #[v', .int .i64 (renewE ch fresh).2]) ∧ ChR w' v' (renewE ch fresh).1 ∧ Ext w w' := by
  have hll := hl.len
  have hval := fun W h => rvalid_any v ch W h hs
  obtain ⟨a1, c1, a2, c2, a3, c3, rfl, h1, k1, h2, k2, h3, k3⟩ := id hv
  cases hV : validC ch
  · have e : renewE ch fresh = (zeroCh, 3) := by unfold renewE; rw [if_pos hV]
    rw [e]
    rw [hV] at hval
    clear hll e
    go_enter Try.func66, Try.ntmps66
    go_wp2_with (first | (go_at_call 67; (with_reducible refine (hval ?_ ?hq193).mono ?_); (case hq193 => (repeat' (first | with_reducible assumption | (with_reducible first | apply ChR.upE | apply ChR.upA | apply ChR.upD)))); rintro e w1 ⟨rfl, hxq⟩; obtain ⟨xq, rfl⟩ := hxq.out; clear hxq) | fail)
    refine bodyPost_ret (v := .tuple #[.agg #[.bool false, .slice none 0 0, .slice none 0 0, .slice none 0 0, .int .i64 0, .int .i64 0], .int .i64 3]) (by simp [results, Try.results66, go_sem]) rfl ?_
    exact ⟨_, rfl, ChR.zero _, (by repeat (first | (with_reducible first | exact Ext.refl _ | assumption | apply Ext.alloc | apply Ext.ext | apply Ext.drew | refine Ext.setCell ?_ ?_ _) | (focus (simp [go_sem]; done))))⟩
  · rw [hV] at hval
    by_cases h16 : fresh.length < 16
    · have e : renewE ch fresh = (zeroCh, 5) := by unfold renewE; rw [if_neg (by rw [hV]; simp), if_pos (.inl h16)]
      rw [e]
      have hI1 : (m : Int) < 16 := by omega
      clear hll e
      go_enter Try.func66, Try.ntmps66
      go_wp2_with (first | (go_at_call 67; (with_reducible refine (hval ?_ ?hq194).mono ?_); (case hq194 => (repeat' (first | with_reducible assumption | (with_reducible first | apply ChR.upE | apply ChR.upA | apply ChR.upD)))); rintro e w1 ⟨rfl, hxq⟩; obtain ⟨xq, rfl⟩ := hxq.out; clear hxq) | fail)
      refine bodyPost_ret (v := .tuple #[.agg #[.bool false, .slice none 0 0, .slice none 0 0, .slice none 0 0, .int .i64 0, .int .i64 0], .int .i64 5]) (by simp [results, Try.results66, go_sem]) rfl ?_
      exact ⟨_, rfl, ChR.zero _, (by repeat (first | (with_reducible first | exact Ext.refl _ | assumption | apply Ext.alloc | apply Ext.ext | apply Ext.drew | refine Ext.setCell ?_ ?_ _) | (focus (simp [go_sem]; done))))⟩
    · by_cases h64 : 64 < fresh.length
      · have e : renewE ch fresh = (zeroCh, 5) := by unfold renewE; rw [if_neg (by rw [hV]; simp), if_pos (.inr h64)]
        rw [e]
        have hI1 : ¬ (m : Int) < 16 := by omega
        have hI2 : (64 : Int) < (m : Int) := by omega
        clear hll e
        go_enter Try.func66, Try.ntmps66
        go_wp2_with (first | (go_at_call 67; (with_reducible refine (hval ?_ ?hq195).mono ?_); (case hq195 => (repeat' (first | with_reducible assumption | (with_reducible first | apply ChR.upE | apply ChR.upA | apply ChR.upD)))); rintro e w1 ⟨rfl, hxq⟩; obtain ⟨xq, rfl⟩ := hxq.out; clear hxq) | fail)
        refine bodyPost_ret (v := .tuple #[.agg #[.bool false, .slice none 0 0, .slice none 0 0, .slice none 0 0, .int .i64 0, .int .i64 0], .int .i64 5]) (by simp [results, Try.results66, go_sem]) rfl ?_
        exact ⟨_, rfl, ChR.zero _, (by repeat (first | (with_reducible first | exact Ext.refl _ | assumption | apply Ext.alloc | apply Ext.ext | apply Ext.drew | refine Ext.setCell ?_ ?_ _) | (focus (simp [go_sem]; done))))⟩
      · have e := Lib.hid (show renewE ch fresh = (keyed ch.cl (hmac fresh ch.sec) 0 0, 0) by unfold renewE; rw [if_neg (by rw [hV]; simp), if_neg (by omega)])
        have hI1 : ¬ (m : Int) < 16 := by omega
        have hI2 : ¬ (64 : Int) < (m : Int) := by omega
        have h32 := Lib.hid (valid_keyed hV).1.1
        rw [e.out]
        clear hll
        generalize hky : hmac fresh ch.sec = ky at e ⊢
        have hkyl := Lib.hid (show ky.length = 32 by rw [← hky]; exact hmac_length _ _)
        go_enter Try.func66, Try.ntmps66
        go_wp2_with (first | (go_at_call 67; (with_reducible refine (hval ?_ ?hq196).mono ?_); (case hq196 => (repeat' (first | with_reducible assumption | (with_reducible first | apply ChR.upE | apply ChR.upA | apply ChR.upD)))); rintro e w1 ⟨rfl, hxq⟩; obtain ⟨xq, rfl⟩ := hxq.out; clear hxq) | fail)
        obtain ⟨W, hW⟩ : ∃ W, W = ((w.alloc (.cells #[.bool ch.cl, .slice a1 ch.sec.length c1, .slice a2 ch.snd.length c2, .slice a3 ch.rcv.length c3, .int .i64 ch.st, .int .i64 ch.rc] 24)).alloc (.cells #[.bool false, .slice none 0 0, .slice none 0 0, .slice none 0 0, .int .i64 0, .int .i64 0] 24)).ext xq := ⟨_, rfl⟩
        rw [← hW]
        have hEX : Ext w W := by rw [hW]; exact (by repeat (first | (with_reducible first | exact Ext.refl _ | assumption | apply Ext.alloc | apply Ext.ext | apply Ext.drew | refine Ext.setCell ?_ ?_ _) | (focus (simp [go_sem]; done))))
        have hB0 : Blk W w.heap.size 24 [.bool ch.cl, .slice a1 ch.sec.length c1, .slice a2 ch.snd.length c2, .slice a3 ch.rcv.length c3, .int .i64 ch.st, .int .i64 ch.rc] := by rw [hW]; exact ((Blk.new w #[.bool ch.cl, .slice a1 ch.sec.length c1, .slice a2 ch.snd.length c2, .slice a3 ch.rcv.length c3, .int .i64 ch.st, .int .i64 ch.rc] 24).alloc _).ext xq
        have hR : Blk W (w.heap.size + 1) 24 [.bool false, .slice none 0 0, .slice none 0 0, .slice none 0 0, .int .i64 0, .int .i64 0] := by rw [hW]; exact (Blk.newAt _ #[.bool false, .slice none 0 0, .slice none 0 0, .slice none 0 0, .int .i64 0, .int .i64 0] 24 (w.heap.size + 1) (by simp)).ext xq
        clear hW
        have f0 := hB0.cell? 0 rfl
        have f1 := hB0.cell? 1 rfl
        haveI := hB0.blt
        haveI := hR.blt
        refine wp_region_vague 7 [[], [0], [], [], [3], [2, 3, 4], [0, 1, 2, 3, 4, 5], [0, 1, 2, 3, 4, 5, 6], [0, 1, 2, 3, 4, 5, 6, 7]] (by kernel_rfl) (by kernel_rfl) (by kernel_rfl) (by kernel_rfl) ?_; simp only [List.take_succ_cons, List.take_zero, List.drop_succ_cons, List.drop_zero, List.take_nil, List.drop_nil]
        (repeat (apply VD_der; (case h => (intro us w' hx hf; obtain ⟨x, rfl⟩ := hx.out; refine ⟨rfl, ?_⟩; simp [go_sem, execOp, *]; (try simp (disch := omega) only [Go.IntWalk.i64_in, Go.IntWalk.rem_in, Go.IntWalk.wrap64_in]); rfl)); (try simp only [Act.put, List.setIfInBounds_toArray, List.set_cons_succ, List.set_cons_zero])))
        (refine VD_vag (fun p => .slice (p 0).1 (32) (p 0).2) (fun p w'' => Own w'' 0 (p 0).1 (32) (p 0).2 (ky)) (fun p w w' h hx => h.ext hx) (fun us w' hx hf => ⟨rfl, ?_⟩) ?_; (unfold gives; simp [go_sem, execOp]; exact vag_fresh (Nat.zero_le _) ((by have := rextract_any b a1 m d ch.sec.length c1 fresh ch.sec w' (hl.ext (hEX.trans hx)) hmd (by omega) (h1.ext (hEX.trans hx)) (by have := h32.out; omega); rwa [hky] at this))))
        (refine VD_vag (fun p => .agg #[.bool (keyed ch.cl ky 0 0).cl, .slice (p 0).1 (keyed ch.cl ky 0 0).sec.length (p 0).2, .slice (p 1).1 (keyed ch.cl ky 0 0).snd.length (p 1).2, .slice (p 2).1 (keyed ch.cl ky 0 0).rcv.length (p 2).2, .int .i64 (keyed ch.cl ky 0 0).st, .int .i64 (keyed ch.cl ky 0 0).rc]) (fun p w'' => ChQ (keyed ch.cl ky 0 0) p w'') (fun p w w' h hx => by first | exact h.ext hx | exact ⟨h.1.ext hx, h.2.ext hx⟩ | exact ⟨h.1.ext hx, h.2⟩ | exact ⟨h.1.ext hx, h.2.1.ext hx, h.2.2.ext hx⟩) (fun us w' hx hf => ⟨rfl, ?_⟩) ?_; (unfold gives; simp [go_sem, execOp]; exact vag_ch (rkeyed_any ch.cl _ _ _ ky _ (Own.sl (by exact (hf _ (List.mem_append_right _ (List.mem_singleton_self _)) rfl))) (Own.le (by exact (hf _ (List.mem_append_right _ (List.mem_singleton_self _)) rfl))).1 (by omega))))
        (refine VD_nil ?_; intro us w' hx hf; obtain ⟨x, rfl⟩ := hx.out; (try simp only [Act.put, List.setIfInBounds_toArray, List.set_cons_succ, List.set_cons_zero, wpList_none]); (try simp only [List.mem_cons, List.not_mem_nil, or_false, forall_eq_or_imp, forall_eq, List.nil_append, List.cons_append, List.mem_append, false_or, true_and, and_true] at hf); (try simp only [Nat.reduceAdd, Nat.zero_add] at hf); (try simp only [Nat.reduceAdd, Nat.zero_add]))
        obtain ⟨_, hq⟩ := hf
        go_wp2_with (first
          | (refine wpList_store_arr (RC6) rfl _ _ rfl (w.heap.size + 1) (0) rfl (chCells (keyed ch.cl ky 0 0) (us 6)) rfl (24) _ ((hR.ext _)) (rfl) (by simp) (chCells_one _ _) ?_; intro w9 hB9 hM9)
          | fail)
        have hE8 := hEX.ext x
        have hE9 : Ext w w9 := Below.trans hE8 (hM9.below (by omega) hE8.size)
        refine bodyPost_ret (results_arr_tmp Try.results66 (RC6) _ _ (w.heap.size + 1) (0) (chCells (keyed ch.cl ky 0 0) (us 6)) rfl (hB9.rd) (rfl) (.int .i64 0) rfl) rfl ?_
        exact ⟨_, rfl, ChR.mk (c := keyed ch.cl ky 0 0) (Sl.mut hq.s1 (hR.ext _) (by simp) hM9) hq.k1 (Sl.mut hq.s2 (hR.ext _) (by simp) hM9) hq.k2 (Sl.mut hq.s3 (hR.ext _) (by simp) hM9) hq.k3, hE9⟩


set_option maxRecDepth 100000 in
theorem rexpand_no (a b : Option Addr) (n c m d : Nat) (k : Int) (w : World) (hk : k < 0 ∨ 8160 < k) :
    Calls Try.prog 115 #[.slice a n c, .slice b m d, .int .i64 k] w fun e w' => e = .returned (.tuple #[.slice none 0 0, .int .i64 4]) ∧ Ext w w' := by
  by_cases h0 : k < 0
  · clear hk
    go_enter Try.func115, Try.ntmps115
    go_wp2
    go_ret2
    exact ⟨rfl, Ext.refl _⟩
  · have h1 : 8160 < k := by omega
    clear hk
    go_enter Try.func115, Try.ntmps115
    go_wp2
    go_ret2
    exact ⟨rfl, Ext.refl _⟩


set_option maxRecDepth 100000 in
set_option maxHeartbeats 4000000 in
theorem rexport_any (v : Value) (ch : Ch) (name : List UInt8) (b : Option Addr) (m d : Nat) (ctx : List UInt8) (k : Int) (w : World) (hv : ChR w v ch) (hs : ch.sec.length ≤ 1000000) (hl : Sl w b m ctx) (hmd : m ≤ d) (hm : m ≤ 1000000) (hn : name.length ≤ 10000) :
    Calls Try.prog 65 #[v, .string ⟨name.toArray⟩, .slice b m d, .int .i64 k] w (Read2 (exportE ch name ctx k).1.length (exportE ch name ctx k).1 (.int .i64 (exportE ch name ctx k).2) w) := by
  have hval := fun W h => rvalid_any v ch W h hs
  obtain ⟨a1, c1, a2, c2, a3, c3, rfl, h1, k1, h2, k2, h3, k3⟩ := id hv
  cases hV : validC ch
  · have e : exportE ch name ctx k = ([], 3) := by unfold exportE; rw [if_pos hV]
    rw [e]
    rw [hV] at hval
    clear e
    go_enter Try.func65, Try.ntmps65
    go_wp2_with (first | (go_at_call 67; (with_reducible refine (hval ?_ ?hq197).mono ?_); (case hq197 => (repeat' (first | with_reducible assumption | (with_reducible first | apply ChR.upE | apply ChR.upA | apply ChR.upD)))); rintro e w1 ⟨rfl, hxq⟩; obtain ⟨xq, rfl⟩ := hxq.out; clear hxq) | fail)
    go_ret2
    exact read2_err _ _ _ (by repeat (first | (with_reducible first | exact Ext.refl _ | assumption | apply Ext.alloc | apply Ext.ext | apply Ext.drew | refine Ext.setCell ?_ ?_ _) | (focus (simp [go_sem]; done))))
  · rw [hV] at hval
    have h32 := Lib.hid (valid_keyed hV).1.1
    by_cases hr : k < 0 ∨ 8160 < k
    · have e : exportE ch name ctx k = ([], 4) := by unfold exportE; rw [if_neg (by rw [hV]; simp), if_pos hr]
      rw [e]
      have hno := fun a1 c1 a2 n2 c2 W => rexpand_no a1 a2 ch.sec.length c1 n2 c2 k W hr
      clear e hr
      go_enter Try.func65, Try.ntmps65
      go_wp2_with (first | (go_at_call 67; (with_reducible refine (hval ?_ ?hq198).mono ?_); (case hq198 => (repeat' (first | with_reducible assumption | (with_reducible first | apply ChR.upE | apply ChR.upA | apply ChR.upD)))); rintro e w1 ⟨rfl, hxq⟩; obtain ⟨xq, rfl⟩ := hxq.out; clear hxq) | fail)
      obtain ⟨W, hW⟩ : ∃ W, W = (w.alloc (.cells #[.bool ch.cl, .slice a1 ch.sec.length c1, .slice a2 ch.snd.length c2, .slice a3 ch.rcv.length c3, .int .i64 ch.st, .int .i64 ch.rc] 24)).ext xq := ⟨_, rfl⟩
      rw [← hW]
      have hEX : Ext w W := by rw [hW]; exact (by repeat (first | (with_reducible first | exact Ext.refl _ | assumption | apply Ext.alloc | apply Ext.ext | apply Ext.drew | refine Ext.setCell ?_ ?_ _) | (focus (simp [go_sem]; done))))
      have hB0 : Blk W w.heap.size 24 [.bool ch.cl, .slice a1 ch.sec.length c1, .slice a2 ch.snd.length c2, .slice a3 ch.rcv.length c3, .int .i64 ch.st, .int .i64 ch.rc] := by rw [hW]; exact (Blk.new w #[.bool ch.cl, .slice a1 ch.sec.length c1, .slice a2 ch.snd.length c2, .slice a3 ch.rcv.length c3, .int .i64 ch.st, .int .i64 ch.rc] 24).ext xq
      clear hW
      have f1 := hB0.cell? 1 rfl
      haveI := hB0.blt
      refine wp_region_vague 9 [[], [0], [], [], [2, 3], [], [0, 1, 2, 3, 4, 5], [0, 1, 2, 3, 4, 5, 6], [0, 1, 2, 3, 4, 5, 6], [0, 1, 2, 3, 4, 5, 6, 7, 8], [0, 1, 2, 3, 4, 5, 6, 7, 8, 9]] (by kernel_rfl) (by kernel_rfl) (by kernel_rfl) (by kernel_rfl) ?_; simp only [List.take_succ_cons, List.take_zero, List.drop_succ_cons, List.drop_zero, List.take_nil, List.drop_nil]
      (repeat (apply VD_der; (case h => (intro us w' hx hf; obtain ⟨x, rfl⟩ := hx.out; refine ⟨rfl, ?_⟩; simp [go_sem, execOp, *]; (try simp (disch := omega) only [Go.IntWalk.i64_in, Go.IntWalk.rem_in, Go.IntWalk.wrap64_in]); rfl)); (try simp only [Act.put, List.setIfInBounds_toArray, List.set_cons_succ, List.set_cons_zero])))
      (refine VD_vag (fun p => .slice (p 0).1 (expS.length + name.length + 34) (p 0).2) (fun p w'' => Sl w'' (p 0).1 (expS.length + name.length + 34) (labelK expS name ctx) ∧ expS.length + name.length + 34 ≤ (p 0).2) (fun p w w' h hx => by first | exact h.ext hx | exact ⟨h.1.ext hx, h.2.ext hx⟩ | exact ⟨h.1.ext hx, h.2⟩ | exact ⟨h.1.ext hx, h.2.1.ext hx, h.2.2.ext hx⟩) (fun us w' hx hf => ⟨rfl, ?_⟩) ?_; (unfold gives; simp [go_sem, execOp]; exact vag_rdl (rlabel_any b m d expS name ctx w' (hl.ext (hEX.trans hx)) hmd hm (by decide) hn)))
      (repeat (apply VD_der; (case h => (intro us w' hx hf; obtain ⟨x, rfl⟩ := hx.out; refine ⟨rfl, ?_⟩; simp [go_sem, execOp, *]; (try simp (disch := omega) only [Go.IntWalk.i64_in, Go.IntWalk.rem_in, Go.IntWalk.wrap64_in]); rfl)); (try simp only [Act.put, List.setIfInBounds_toArray, List.set_cons_succ, List.set_cons_zero])))
      (refine VD_vag (fun _ => .tuple #[.slice none 0 0, .int .i64 4]) (fun _ _ => True) (fun _ _ _ _ _ => trivial) (fun us w' hx hf => ⟨rfl, ?_⟩) ?_; (unfold gives; simp [go_sem, execOp]; refine (hno _ _ _ _ _ _).mono ?_; rintro e w1 ⟨rfl, hx1⟩; first | exact ⟨rfl, hx1⟩ | simpa using hx1))
      (repeat (apply VD_der; (case h => (intro us w' hx hf; obtain ⟨x, rfl⟩ := hx.out; refine ⟨rfl, ?_⟩; simp [go_sem, execOp, *]; (try simp (disch := omega) only [Go.IntWalk.i64_in, Go.IntWalk.rem_in, Go.IntWalk.wrap64_in]); rfl)); (try simp only [Act.put, List.setIfInBounds_toArray, List.set_cons_succ, List.set_cons_zero])))
      (refine VD_nil ?_; intro us w' hx hf; obtain ⟨x, rfl⟩ := hx.out; (try simp only [Act.put, List.setIfInBounds_toArray, List.set_cons_succ, List.set_cons_zero, wpList_none]); (try simp only [List.mem_cons, List.not_mem_nil, or_false, forall_eq_or_imp, forall_eq, List.nil_append, List.cons_append, List.mem_append, false_or, true_and, and_true] at hf); (try simp only [Nat.reduceAdd, Nat.zero_add] at hf); (try simp only [Nat.reduceAdd, Nat.zero_add]))
      go_wp2
      go_ret2
      exact read2_err _ _ _ (hEX.trans (Ext.of_ext _ _))
    · have hk0 : 0 ≤ k := by omega
      obtain ⟨q, rfl⟩ : ∃ q : Nat, k = (q : Int) := ⟨k.toNat, by omega⟩
      have e := Lib.hid (show exportE ch name ctx (q : Int) = (expandK ch.sec (labelK expS name ctx) q, 0) by unfold exportE; rw [if_neg (by rw [hV]; simp), if_neg hr]; simp)
      have hq8 : q ≤ 8160 := by omega
      rw [e.out]
      show Calls _ _ _ _ (Read2 (expandK ch.sec (labelK expS name ctx) q).length _ _ _)
      rw [expandK_length]
      have hex := fun a2 n2 c2 W hS hn2 h2 => rexpand_any a1 a2 ch.sec.length c1 n2 c2 q rfl ch.sec (labelK expS name ctx) W hS k1 hs h2 hn2 hq8
      clear hr e
      go_enter Try.func65, Try.ntmps65
      go_wp2_with (first | (go_at_call 67; (with_reducible refine (hval ?_ ?hq199).mono ?_); (case hq199 => (repeat' (first | with_reducible assumption | (with_reducible first | apply ChR.upE | apply ChR.upA | apply ChR.upD)))); rintro e w1 ⟨rfl, hxq⟩; obtain ⟨xq, rfl⟩ := hxq.out; clear hxq) | fail)
      obtain ⟨W, hW⟩ : ∃ W, W = (w.alloc (.cells #[.bool ch.cl, .slice a1 ch.sec.length c1, .slice a2 ch.snd.length c2, .slice a3 ch.rcv.length c3, .int .i64 ch.st, .int .i64 ch.rc] 24)).ext xq := ⟨_, rfl⟩
      rw [← hW]
      have hEX : Ext w W := by rw [hW]; exact (by repeat (first | (with_reducible first | exact Ext.refl _ | assumption | apply Ext.alloc | apply Ext.ext | apply Ext.drew | refine Ext.setCell ?_ ?_ _) | (focus (simp [go_sem]; done))))
      have hB0 : Blk W w.heap.size 24 [.bool ch.cl, .slice a1 ch.sec.length c1, .slice a2 ch.snd.length c2, .slice a3 ch.rcv.length c3, .int .i64 ch.st, .int .i64 ch.rc] := by rw [hW]; exact (Blk.new w #[.bool ch.cl, .slice a1 ch.sec.length c1, .slice a2 ch.snd.length c2, .slice a3 ch.rcv.length c3, .int .i64 ch.st, .int .i64 ch.rc] 24).ext xq
      clear hW
      have f1 := hB0.cell? 1 rfl
      haveI := hB0.blt
      refine wp_region_vague 9 [[], [0], [], [], [2, 3], [], [0, 1, 2, 3, 4, 5], [0, 1, 2, 3, 4, 5, 6], [0, 1, 2, 3, 4, 5, 6], [0, 1, 2, 3, 4, 5, 6, 7, 8], [0, 1, 2, 3, 4, 5, 6, 7, 8, 9]] (by kernel_rfl) (by kernel_rfl) (by kernel_rfl) (by kernel_rfl) ?_; simp only [List.take_succ_cons, List.take_zero, List.drop_succ_cons, List.drop_zero, List.take_nil, List.drop_nil]
      (repeat (apply VD_der; (case h => (intro us w' hx hf; obtain ⟨x, rfl⟩ := hx.out; refine ⟨rfl, ?_⟩; simp [go_sem, execOp, *]; (try simp (disch := omega) only [Go.IntWalk.i64_in, Go.IntWalk.rem_in, Go.IntWalk.wrap64_in]); rfl)); (try simp only [Act.put, List.setIfInBounds_toArray, List.set_cons_succ, List.set_cons_zero])))
      (refine VD_vag (fun p => .slice (p 0).1 (expS.length + name.length + 34) (p 0).2) (fun p w'' => Sl w'' (p 0).1 (expS.length + name.length + 34) (labelK expS name ctx) ∧ expS.length + name.length + 34 ≤ (p 0).2) (fun p w w' h hx => by first | exact h.ext hx | exact ⟨h.1.ext hx, h.2.ext hx⟩ | exact ⟨h.1.ext hx, h.2⟩ | exact ⟨h.1.ext hx, h.2.1.ext hx, h.2.2.ext hx⟩) (fun us w' hx hf => ⟨rfl, ?_⟩) ?_; (unfold gives; simp [go_sem, execOp]; exact vag_rdl (rlabel_any b m d expS name ctx w' (hl.ext (hEX.trans hx)) hmd hm (by decide) hn)))
      (repeat (apply VD_der; (case h => (intro us w' hx hf; obtain ⟨x, rfl⟩ := hx.out; refine ⟨rfl, ?_⟩; simp [go_sem, execOp, *]; (try simp (disch := omega) only [Go.IntWalk.i64_in, Go.IntWalk.rem_in, Go.IntWalk.wrap64_in]); rfl)); (try simp only [Act.put, List.setIfInBounds_toArray, List.set_cons_succ, List.set_cons_zero])))
      (refine VD_vag (fun p => .tuple #[.slice (p 0).1 (q) (p 0).2, .int .i64 0]) (fun p w'' => Sl w'' (p 0).1 (q) (expandK ch.sec (labelK expS name ctx) q) ∧ (q) ≤ (p 0).2) (fun p w w' h hx => ⟨h.1.ext hx, h.2⟩) (fun us w' hx hf => ⟨rfl, ?_⟩) ?_; (unfold gives; simp [go_sem, execOp]; exact vag_read (hex _ _ _ _ (h1.ext (hEX.trans hx)) (by have : expS.length = 14 := rfl; omega) (by exact (hf _ (List.mem_append_right _ (List.mem_singleton_self _)) rfl).1))))
      (repeat (apply VD_der; (case h => (intro us w' hx hf; obtain ⟨x, rfl⟩ := hx.out; refine ⟨rfl, ?_⟩; simp [go_sem, execOp, *]; (try simp (disch := omega) only [Go.IntWalk.i64_in, Go.IntWalk.rem_in, Go.IntWalk.wrap64_in]); rfl)); (try simp only [Act.put, List.setIfInBounds_toArray, List.set_cons_succ, List.set_cons_zero])))
      (refine VD_nil ?_; intro us w' hx hf; obtain ⟨x, rfl⟩ := hx.out; (try simp only [Act.put, List.setIfInBounds_toArray, List.set_cons_succ, List.set_cons_zero, wpList_none]); (try simp only [List.mem_cons, List.not_mem_nil, or_false, forall_eq_or_imp, forall_eq, List.nil_append, List.cons_append, List.mem_append, false_or, true_and, and_true] at hf); (try simp only [Nat.reduceAdd, Nat.zero_add] at hf); (try simp only [Nat.reduceAdd, Nat.zero_add]))
      obtain ⟨_, hS, hc⟩ := hf
      go_wp2
      go_ret2
      exact ⟨_, _, rfl, hS, hc, hEX.trans (Ext.of_ext _ _)⟩
end Go.Proofs.Ytkjdlbjbppbmdaa

/- The walks of layer 20 of the document: Copy, Send. -/
namespace Go.Proofs.Ytkjdlbjbppbmdaa
open Go.RowKit Go.Sec Go.Oct Go.Sha Go.Aes Go.Chan BigFrame

set_option maxRecDepth 100000 in
set_option maxHeartbeats 4000000 in
theorem rcopy_any (v : Value) (ch : Ch) (w : World) (hv : ChR w v ch) (hs : ch.sec.length ≤ 1000000) (hs2 : ch.snd.length ≤ 1000000) (hs3 : ch.rcv.length ≤ 1000000) :
    Calls Try.prog 96 #[v] w (ChP ch w) := by
  obtain ⟨a1, c1, a2, c2, a3, c3, rfl, h1, k1, h2, k2, h3, k3⟩ := id hv
  go_enter Try.func96, Try.ntmps96
  go_wp2_with fail
  refine nameW ?_
  intro W hW
  have hEX : Ext w W := by rw [hW]; exact (by repeat (first | (with_reducible first | exact Ext.refl _ | assumption | apply Ext.alloc | apply Ext.ext | apply Ext.drew | refine Ext.setCell ?_ ?_ _) | (focus (simp [go_sem]; done))))
  have hB0 : Blk W w.heap.size 24 [.bool ch.cl, .slice a1 ch.sec.length c1, .slice a2 ch.snd.length c2, .slice a3 ch.rcv.length c3, .int .i64 ch.st, .int .i64 ch.rc] := by rw [hW]; exact (by repeat (first | assumption | (refine Blk.newAt _ _ _ _ ?_; first | rfl | (simp only [World.size_alloc]; done)) | apply Blk.ext | apply Blk.alloc | (refine Blk.other ?_ ?_ _; rotate_left; (simp <;> omega))))
  have hR : Blk W (w.heap.size + 1) 24 [.bool false, .slice none 0 0, .slice none 0 0, .slice none 0 0, .int .i64 0, .int .i64 0] := by rw [hW]; exact (by repeat (first | assumption | (refine Blk.newAt _ _ _ _ ?_; first | rfl | (simp only [World.size_alloc]; done)) | apply Blk.ext | apply Blk.alloc | (refine Blk.other ?_ ?_ _; rotate_left; (simp <;> omega))))
  clear hW
  have f0 := hB0.cell? 0 rfl
  have f1 := hB0.cell? 1 rfl
  have f2 := hB0.cell? 2 rfl
  have f3 := hB0.cell? 3 rfl
  have f4 := hB0.cell? 4 rfl
  have f5 := hB0.cell? 5 rfl
  haveI := hB0.blt
  haveI := hR.blt
  refine wp_region_vague 19 [[], [0], [], [2], [2, 3], [2, 3, 4], [], [6], [6, 7], [2, 3, 4, 5, 6, 7, 8], [], [10], [10, 11], [2, 3, 4, 5, 6, 7, 8, 9, 10, 11, 12], [], [14], [], [16], [0, 1, 2, 3, 4, 5, 6, 7, 8, 9, 10, 11, 12, 13, 14, 15, 16, 17], [0, 1, 2, 3, 4, 5, 6, 7, 8, 9, 10, 11, 12, 13, 14, 15, 16, 17, 18]] (by kernel_rfl) (by kernel_rfl) (by kernel_rfl) (by kernel_rfl) ?_; simp only [List.take_succ_cons, List.take_zero, List.drop_succ_cons, List.drop_zero, List.take_nil, List.drop_nil]
  (repeat (apply VD_der; (case h => (intro us w' hx hf; obtain ⟨x, rfl⟩ := hx.out; refine ⟨rfl, ?_⟩; simp [go_sem, execOp, *]; (try simp (disch := omega) only [Go.IntWalk.i64_in, Go.IntWalk.rem_in, Go.IntWalk.wrap64_in]); rfl)); (try simp only [Act.put, List.setIfInBounds_toArray, List.set_cons_succ, List.set_cons_zero])))
  (refine VD_vag (fun p => .slice (p 0).1 (1) (1)) (fun p w'' => Bss w'' (p 0).1 (1) ([ch.sec])) (fun p w w' h hx => h.ext hx) (fun us w' hx hf => ⟨rfl, ?_⟩) ?_; (unfold gives; simp [go_sem, execOp]; exact ⟨fun _ => (some ⟨w'.heap.size, 0, none⟩, 0), rfl, Ext.of_alloc _ _, bss1 (h1.ext (hEX.trans hx)) _⟩))
  (refine VD_vag (fun p => .slice (p 0).1 (ch.sec.length) (p 0).2) (fun p w'' => Own w'' 0 (p 0).1 (ch.sec.length) (p 0).2 (ch.sec)) (fun p w w' h hx => h.ext hx) (fun us w' hx hf => ⟨rfl, ?_⟩) ?_; (unfold gives; simp [go_sem, execOp]; exact vag_fresh (Nat.zero_le _) ((by have := join_any _ 1 1 [ch.sec] _ (hf _ (List.mem_append_right _ (List.mem_singleton_self _)) rfl) (by omega) ch.sec.length (by simp [joinL]) (by omega); rwa [joinL1] at this))))
  (repeat (apply VD_der; (case h => (intro us w' hx hf; obtain ⟨x, rfl⟩ := hx.out; refine ⟨rfl, ?_⟩; simp [go_sem, execOp, *]; (try simp (disch := omega) only [Go.IntWalk.i64_in, Go.IntWalk.rem_in, Go.IntWalk.wrap64_in]); rfl)); (try simp only [Act.put, List.setIfInBounds_toArray, List.set_cons_succ, List.set_cons_zero])))
  (refine VD_vag (fun p => .slice (p 0).1 (1) (1)) (fun p w'' => Bss w'' (p 0).1 (1) ([ch.snd])) (fun p w w' h hx => h.ext hx) (fun us w' hx hf => ⟨rfl, ?_⟩) ?_; (unfold gives; simp [go_sem, execOp]; exact ⟨fun _ => (some ⟨w'.heap.size, 0, none⟩, 0), rfl, Ext.of_alloc _ _, bss1 (h2.ext (hEX.trans hx)) _⟩))
  (refine VD_vag (fun p => .slice (p 0).1 (ch.snd.length) (p 0).2) (fun p w'' => Own w'' 0 (p 0).1 (ch.snd.length) (p 0).2 (ch.snd)) (fun p w w' h hx => h.ext hx) (fun us w' hx hf => ⟨rfl, ?_⟩) ?_; (unfold gives; simp [go_sem, execOp]; exact vag_fresh (Nat.zero_le _) ((by have := join_any _ 1 1 [ch.snd] _ (hf _ (List.mem_append_right _ (List.mem_singleton_self _)) rfl) (by omega) ch.snd.length (by simp [joinL]) (by omega); rwa [joinL1] at this))))
  (repeat (apply VD_der; (case h => (intro us w' hx hf; obtain ⟨x, rfl⟩ := hx.out; refine ⟨rfl, ?_⟩; simp [go_sem, execOp, *]; (try simp (disch := omega) only [Go.IntWalk.i64_in, Go.IntWalk.rem_in, Go.IntWalk.wrap64_in]); rfl)); (try simp only [Act.put, List.setIfInBounds_toArray, List.set_cons_succ, List.set_cons_zero])))
  (refine VD_vag (fun p => .slice (p 0).1 (1) (1)) (fun p w'' => Bss w'' (p 0).1 (1) ([ch.rcv])) (fun p w w' h hx => h.ext hx) (fun us w' hx hf => ⟨rfl, ?_⟩) ?_; (unfold gives; simp [go_sem, execOp]; exact ⟨fun _ => (some ⟨w'.heap.size, 0, none⟩, 0), rfl, Ext.of_alloc _ _, bss1 (h3.ext (hEX.trans hx)) _⟩))
  (refine VD_vag (fun p => .slice (p 0).1 (ch.rcv.length) (p 0).2) (fun p w'' => Own w'' 0 (p 0).1 (ch.rcv.length) (p 0).2 (ch.rcv)) (fun p w w' h hx => h.ext hx) (fun us w' hx hf => ⟨rfl, ?_⟩) ?_; (unfold gives; simp [go_sem, execOp]; exact vag_fresh (Nat.zero_le _) ((by have := join_any _ 1 1 [ch.rcv] _ (hf _ (List.mem_append_right _ (List.mem_singleton_self _)) rfl) (by omega) ch.rcv.length (by simp [joinL]) (by omega); rwa [joinL1] at this))))
  (repeat (apply VD_der; (case h => (intro us w' hx hf; obtain ⟨x, rfl⟩ := hx.out; refine ⟨rfl, ?_⟩; simp [go_sem, execOp, *]; (try simp (disch := omega) only [Go.IntWalk.i64_in, Go.IntWalk.rem_in, Go.IntWalk.wrap64_in]); rfl)); (try simp only [Act.put, List.setIfInBounds_toArray, List.set_cons_succ, List.set_cons_zero])))
  (refine VD_nil ?_; intro us w' hx hf; obtain ⟨x, rfl⟩ := hx.out; (try simp only [Act.put, List.setIfInBounds_toArray, List.set_cons_succ, List.set_cons_zero, wpList_none]); (try simp only [List.mem_cons, List.not_mem_nil, or_false, forall_eq_or_imp, forall_eq, List.nil_append, List.cons_append, List.mem_append, false_or, true_and, and_true] at hf); (try simp only [Nat.reduceAdd, Nat.zero_add] at hf); (try simp only [Nat.reduceAdd, Nat.zero_add]))
  obtain ⟨_, hO1, _, hO2, _, hO3⟩ := hf
  go_wp2_with (first
    | (refine wpList_store_arr (RC6) rfl _ _ rfl (w.heap.size + 1) (0) rfl ([.bool ch.cl, .slice (us 5 0).1 ch.sec.length (us 5 0).2, .slice (us 9 0).1 ch.snd.length (us 9 0).2, .slice (us 13 0).1 ch.rcv.length (us 13 0).2, .int .i64 ch.st, .int .i64 ch.rc]) rfl (24) _ ((hR.ext _)) (rfl) (by simp) (by first | exact one_u8 _ | (simp; done) | (simp; (repeat' (first | rfl | constructor)))) ?_; intro w9 hB9 hM9)
    | fail)
  refine bodyPost_ret (results_arr Try.results96 (RC6) _ _ (w.heap.size + 1) (0) ([.bool ch.cl, .slice (us 5 0).1 ch.sec.length (us 5 0).2, .slice (us 9 0).1 ch.snd.length (us 9 0).2, .slice (us 13 0).1 ch.rcv.length (us 13 0).2, .int .i64 ch.st, .int .i64 ch.rc]) rfl (hB9.rd) (rfl)) rfl ?_
  have hE8 := hEX.ext x
  exact ⟨_, rfl, ChR.mk (c := ch) (Sl.mut hO1.sl (hR.ext _) (by simp) hM9) hO1.le.1 (Sl.mut hO2.sl (hR.ext _) (by simp) hM9) hO2.le.1 (Sl.mut hO3.sl (hR.ext _) (by simp) hM9) hO3.le.1, Below.trans hE8 (hM9.below (by omega) hE8.size)⟩

set_option maxRecDepth 100000 in
set_option maxHeartbeats 8000000 in
theorem rsend_any (v : Value) (ch : Ch) (kind : Int) (b : Option Addr) (m d : Nat) (l : List UInt8) (w : World) (hv : ChR w v ch) (hs : ch.sec.length ≤ 1000000) (hl : Sl w b m l) (hmd : m ≤ d) :
    Calls Try.prog 63 #[v, .int .i64 kind, .slice b m d] w (SendP (sendE ch kind l) w) := by
  have hll := hl.len
  have hval := fun W h => rvalid_any v ch W h hs
  obtain ⟨a1, c1, a2, c2, a3, c3, rfl, h1, k1, h2, k2, h3, k3⟩ := id hv
  cases hV : validC ch
  · have e : sendE ch kind l = (zeroCh, [], 3) := by unfold sendE; rw [if_pos hV]
    rw [e]
    rw [hV] at hval
    clear hll e
    go_enter Try.func63, Try.ntmps63
    go_wp2_with (first | (go_at_call 67; (with_reducible refine (hval ?_ ?hq200).mono ?_); (case hq200 => (repeat' (first | with_reducible assumption | (with_reducible first | apply ChR.upE | apply ChR.upA | apply ChR.upD)))); rintro e w1 ⟨rfl, hxq⟩; obtain ⟨xq, rfl⟩ := hxq.out; clear hxq) | fail)
    refine bodyPost_ret (v := .tuple #[.agg #[.bool false, .slice none 0 0, .slice none 0 0, .slice none 0 0, .int .i64 0, .int .i64 0], .slice none 0 0, .int .i64 3]) (by simp [results, Try.results63, go_sem]) rfl ?_
    exact SendP.err _ _ _ (by repeat (first | (with_reducible first | exact Ext.refl _ | assumption | apply Ext.alloc | apply Ext.ext | apply Ext.drew | refine Ext.setCell ?_ ?_ _) | (focus (simp [go_sem]; done))))
  · rw [hV] at hval
    by_cases hk0 : kind < 0
    · have e : sendE ch kind l = (zeroCh, [], 4) := by unfold sendE; rw [if_neg (by rw [hV]; simp), if_pos (.inl hk0)]
      rw [e]
      clear hll e
      go_enter Try.func63, Try.ntmps63
      go_wp2_with (first | (go_at_call 67; (with_reducible refine (hval ?_ ?hq201).mono ?_); (case hq201 => (repeat' (first | with_reducible assumption | (with_reducible first | apply ChR.upE | apply ChR.upA | apply ChR.upD)))); rintro e w1 ⟨rfl, hxq⟩; obtain ⟨xq, rfl⟩ := hxq.out; clear hxq) | fail)
      refine bodyPost_ret (v := .tuple #[.agg #[.bool false, .slice none 0 0, .slice none 0 0, .slice none 0 0, .int .i64 0, .int .i64 0], .slice none 0 0, .int .i64 4]) (by simp [results, Try.results63, go_sem]) rfl ?_
      exact SendP.err _ _ _ (by repeat (first | (with_reducible first | exact Ext.refl _ | assumption | apply Ext.alloc | apply Ext.ext | apply Ext.drew | refine Ext.setCell ?_ ?_ _) | (focus (simp [go_sem]; done))))
    · by_cases hk1 : 255 < kind
      · have e : sendE ch kind l = (zeroCh, [], 4) := by unfold sendE; rw [if_neg (by rw [hV]; simp), if_pos (.inr hk1)]
        rw [e]
        clear hll e
        go_enter Try.func63, Try.ntmps63
        go_wp2_with (first | (go_at_call 67; (with_reducible refine (hval ?_ ?hq202).mono ?_); (case hq202 => (repeat' (first | with_reducible assumption | (with_reducible first | apply ChR.upE | apply ChR.upA | apply ChR.upD)))); rintro e w1 ⟨rfl, hxq⟩; obtain ⟨xq, rfl⟩ := hxq.out; clear hxq) | fail)
        refine bodyPost_ret (v := .tuple #[.agg #[.bool false, .slice none 0 0, .slice none 0 0, .slice none 0 0, .int .i64 0, .int .i64 0], .slice none 0 0, .int .i64 4]) (by simp [results, Try.results63, go_sem]) rfl ?_
        exact SendP.err _ _ _ (by repeat (first | (with_reducible first | exact Ext.refl _ | assumption | apply Ext.alloc | apply Ext.ext | apply Ext.drew | refine Ext.setCell ?_ ?_ _) | (focus (simp [go_sem]; done))))
      · by_cases hm : 16384 < m
        · have e : sendE ch kind l = (zeroCh, [], 2) := by unfold sendE; rw [if_neg (by rw [hV]; simp), if_neg (by omega), if_pos (by omega)]
          rw [e]
          have hI : (16384 : Int) < (m : Int) := by omega
          clear hll e
          go_enter Try.func63, Try.ntmps63
          go_wp2_with (first | (go_at_call 67; (with_reducible refine (hval ?_ ?hq203).mono ?_); (case hq203 => (repeat' (first | with_reducible assumption | (with_reducible first | apply ChR.upE | apply ChR.upA | apply ChR.upD)))); rintro e w1 ⟨rfl, hxq⟩; obtain ⟨xq, rfl⟩ := hxq.out; clear hxq) | fail)
          refine bodyPost_ret (v := .tuple #[.agg #[.bool false, .slice none 0 0, .slice none 0 0, .slice none 0 0, .int .i64 0, .int .i64 0], .slice none 0 0, .int .i64 2]) (by simp [results, Try.results63, go_sem]) rfl ?_
          exact SendP.err _ _ _ (by repeat (first | (with_reducible first | exact Ext.refl _ | assumption | apply Ext.alloc | apply Ext.ext | apply Ext.drew | refine Ext.setCell ?_ ?_ _) | (focus (simp [go_sem]; done))))
        · by_cases hst : ch.st = 1099511627776
          · have e : sendE ch kind l = (zeroCh, [], 7) := by unfold sendE; rw [if_neg (by rw [hV]; simp), if_neg (by omega), if_neg (by omega), if_pos hst]
            rw [e]
            have hI : ¬ (16384 : Int) < (m : Int) := by omega
            have hI2 : (ch.st == 1099511627776) = true := by simpa using hst
            clear hll e hst
            go_enter Try.func63, Try.ntmps63
            go_wp2_with (first | (go_at_call 67; (with_reducible refine (hval ?_ ?hq204).mono ?_); (case hq204 => (repeat' (first | with_reducible assumption | (with_reducible first | apply ChR.upE | apply ChR.upA | apply ChR.upD)))); rintro e w1 ⟨rfl, hxq⟩; obtain ⟨xq, rfl⟩ := hxq.out; clear hxq) | fail)
            refine bodyPost_ret (v := .tuple #[.agg #[.bool false, .slice none 0 0, .slice none 0 0, .slice none 0 0, .int .i64 0, .int .i64 0], .slice none 0 0, .int .i64 7]) (by simp [results, Try.results63, go_sem]) rfl ?_
            exact SendP.err _ _ _ (by repeat (first | (with_reducible first | exact Ext.refl _ | assumption | apply Ext.alloc | apply Ext.ext | apply Ext.drew | refine Ext.setCell ?_ ?_ _) | (focus (simp [go_sem]; done))))
          · have e := Lib.hid (show sendE ch kind l = (keyed ch.cl ch.sec (ch.st + 1) ch.rc, recC ch kind l, 0) by unfold sendE; rw [if_neg (by rw [hV]; simp), if_neg (by omega), if_neg (by omega), if_neg hst])
            have hI : ¬ (16384 : Int) < (m : Int) := by omega
            have hI2 : (ch.st == 1099511627776) = false := by simpa using hst
            obtain ⟨⟨g1, g2, g3, g4, g5⟩, hkey⟩ := valid_keyed hV
            have h32 : ch.snd.length = 32 := by rw [hkey]; exact keyed_snd _ _ _ _
            have hrl := Lib.hid (show (recC ch kind l).length = m + 19 by rw [recC_length h32 _ _ (by omega), hll])
            rw [e.out]
            have hb8 : IntKind.u8.wrap kind = n8 (b8 kind) := wrap_b8 _
            have hw2 : IntKind.u64.wrap ((m : Int) + 16) = n64 (UInt64.ofNat (m + 16)) := by
              rw [n64_int _ (by omega) (by omega), show ((m : Int) + 16).toNat = m + 16 by omega]
            have hw8 := n64_int ch.st g2 (by omega)
            have hp8 : ∀ W, Calls Try.prog 85 #[.int .u64 (n64 (UInt64.ofNat ch.st.toNat)), .int .i64 8] W (Fresh 8 (num8 ch.st) W) := fun W => put_n (UInt64.ofNat ch.st.toNat) 8 rfl (show (8 : Int) = ((8 : Nat) : Int) from rfl) W (by omega)
            have hput := fun W => put_n (UInt64.ofNat (m + 16)) 2 rfl (show (2 : Int) = ((2 : Nat) : Int) from rfl) W (by omega)
            have hhd := Lib.hid (show headC kind l.length = [b8 kind] ++ putL 2 (UInt64.ofNat (m + 16)) by rw [hll]; rfl)
            have hpl := putL_length 2 (UInt64.ofNat (m + 16))
            obtain ⟨head, hhead⟩ : ∃ h, Hid (h = headC kind l.length) := ⟨_, Lib.hid rfl⟩
            have hhl : head.length = 3 := by rw [hhead.out]; exact headC_length _ _
            obtain ⟨sd, hsd⟩ : ∃ s, Hid (s = (sealE ch.snd [num8 ch.st, head] l).1) := ⟨_, Lib.hid rfl⟩
            have hck : checkA ch.snd [num8 ch.st, head] = 0 := by rw [hhead.out]; exact ad_ok h32 _ _ _
            have hse : sealE ch.snd [num8 ch.st, head] l = (sd, 0) := by
              rw [hsd.out, sealE_ok hck (by omega)]
            have hsdl : sd.length = m + 16 := by
              rw [hsd.out, sealE_ok hck (by omega)]
              simp only [List.length_append, s2v_length, stream_length, hll]; omega
            have hrc := Lib.hid (show recC ch kind l = head ++ sd by unfold recC; rw [hsd.out, hhead.out])
            have hseal := fun bA cA W h1 h2 h3 => rseal_any a2 bA b ch.snd.length c2 2 cA m d ch.snd [num8 ch.st, head] l W h1 k2 h2 (by omega) h3 hmd
            simp only [hse] at hseal
            rw [hsdl] at hseal
            generalize putL 2 (UInt64.ofNat (m + 16)) = pp at *
            generalize b8 kind = kb at *
            generalize UInt64.ofNat (m + 16) = q64 at *
            generalize num8 ch.st = n8s at *
            generalize UInt64.ofNat ch.st.toNat = s64 at *
            rw [← hhead.out] at hhd
            have hsr : ch.rcv.length = 32 := by rw [hkey]; exact keyed_rcv _ _ _ _
            have hcop := fun W h => rcopy_any (.agg #[.bool ch.cl, .slice a1 ch.sec.length c1, .slice a2 ch.snd.length c2, .slice a3 ch.rcv.length c3, .int .i64 ch.st, .int .i64 ch.rc]) ch W h hs (by omega) (by omega)
            have hk0 : (keyed ch.cl ch.sec ch.st ch.rc).snd = (keyed ch.cl ch.sec (ch.st + 1) ch.rc).snd := rfl
            have hk1 : (keyed ch.cl ch.sec ch.st ch.rc).rcv = (keyed ch.cl ch.sec (ch.st + 1) ch.rc).rcv := rfl
            have hks := Lib.hid (show (keyed ch.cl ch.sec (ch.st + 1) ch.rc).snd = ch.snd by rw [← hk0, ← hkey])
            have hkr := Lib.hid (show (keyed ch.cl ch.sec (ch.st + 1) ch.rc).rcv = ch.rcv by rw [← hk1, ← hkey])
            clear hse hck hsd h32 hkey hll e hst g1 hsr hk0 hk1
            show Calls _ _ _ _ (fun e w' => ∃ v a c, e = .returned (.tuple #[v, .slice a (recC ch kind l).length c, .int .i64 0]) ∧ ChR w' v (keyed ch.cl ch.sec (ch.st + 1) ch.rc) ∧ Sl w' a (recC ch kind l).length (recC ch kind l) ∧ (recC ch kind l).length ≤ c ∧ Ext w w')
            rw [hrl.out]
            go_enter Try.func63, Try.ntmps63
            go_wp2_with (first | (go_at_call 67; (with_reducible refine (hval ?_ ?hq205).mono ?_); (case hq205 => (repeat' (first | with_reducible assumption | (with_reducible first | apply ChR.upE | apply ChR.upA | apply ChR.upD)))); rintro e w1 ⟨rfl, hxq⟩; obtain ⟨xq, rfl⟩ := hxq.out; clear hxq) | fail)
            obtain ⟨W, hW⟩ : ∃ W, W = ((w.alloc (.cells #[.bool ch.cl, .slice a1 ch.sec.length c1, .slice a2 ch.snd.length c2, .slice a3 ch.rcv.length c3, .int .i64 ch.st, .int .i64 ch.rc] 24)).alloc (.cells #[.bool false, .slice none 0 0, .slice none 0 0, .slice none 0 0, .int .i64 0, .int .i64 0] 24)).ext xq := ⟨_, rfl⟩
            rw [← hW]
            have hEX : Ext w W := by rw [hW]; exact (by repeat (first | (with_reducible first | exact Ext.refl _ | assumption | apply Ext.alloc | apply Ext.ext | apply Ext.drew | refine Ext.setCell ?_ ?_ _) | (focus (simp [go_sem]; done))))
            have hB0 : Blk W w.heap.size 24 [.bool ch.cl, .slice a1 ch.sec.length c1, .slice a2 ch.snd.length c2, .slice a3 ch.rcv.length c3, .int .i64 ch.st, .int .i64 ch.rc] := by rw [hW]; exact (by repeat (first | assumption | (refine Blk.newAt _ _ _ _ ?_; first | rfl | (simp only [World.size_alloc]; done)) | apply Blk.ext | apply Blk.alloc | (refine Blk.other ?_ ?_ _; rotate_left; (simp <;> omega))))
            have hR : Blk W (w.heap.size + 1) 24 [.bool false, .slice none 0 0, .slice none 0 0, .slice none 0 0, .int .i64 0, .int .i64 0] := by rw [hW]; exact (by repeat (first | assumption | (refine Blk.newAt _ _ _ _ ?_; first | rfl | (simp only [World.size_alloc]; done)) | apply Blk.ext | apply Blk.alloc | (refine Blk.other ?_ ?_ _; rotate_left; (simp <;> omega))))
            clear hW
            have hx1 : Ext W (W.alloc (.cells #[.int .u8 (n8 kb)] 5)) := Ext.of_alloc _ _
            go_wp2_with fail; (with_reducible refine (hput _).mono ?_); rintro e w2 ⟨p2, q2, rfl, hO2, hx2⟩
            have hB3 := bss2 (c1 := 1) (c2 := q2) ((sl_new1 W kb 5).ext hx2) hO2.sl 22
            go_wp2_with fail; (with_reducible refine (join_any _ _ _ _ _ hB3 (by omega) 3 (by simp [joinL2, hpl]) (by omega)).mono ?_); rintro e w3 ⟨p3, q3, rfl, hO3, hx3⟩
            rw [joinL2, ← hhd.out] at hO3
            have hle3 := hO3.le
            have hE3 : Ext W w3 := (Ext.alloc (hx1.trans hx2) _).trans hx3
            have hB0 := hB0.extB hE3
            have hR := hR.extB hE3
            have hSh := hO3.sl
            have hl3 := hl.ext (hEX.trans hE3)
            have h23 := h2.ext (hEX.trans hE3)
            have hv3 := hv.ext (hEX.trans hE3)
            clear hO3 hB3 hO2 hput hx3 hx2 hx1
            have f2 := hB0.cell? 2 rfl
            have f4 := hB0.cell? 4 rfl
            have f5 := hB0.cell? 5 rfl
            haveI := hB0.blt
            haveI := hR.blt
            go_wp2
            refine wp_region_vague 15 [[], [0], [], [2], [2, 3], [2, 3, 4], [], [2, 3, 4, 5, 6], [], [0, 1, 2, 3, 4, 5, 6, 7, 8], [0, 1, 2, 3, 4, 5, 6, 7, 8, 9], [0, 1, 2, 3, 4, 5, 6, 7, 8, 9, 10], [0, 1, 2, 3, 4, 5, 6, 7, 8, 9, 10], [0, 1, 2, 3, 4, 5, 6, 7, 8, 9, 10, 11], [0, 1, 2, 3, 4, 5, 6, 7, 8, 9, 10, 11, 12, 13]] (by kernel_rfl) (by kernel_rfl) (by kernel_rfl) (by kernel_rfl) ?_; simp only [List.take_succ_cons, List.take_zero, List.drop_succ_cons, List.drop_zero, List.take_nil, List.drop_nil]
            (repeat (apply VD_der; (case h => (intro us w' hx hf; obtain ⟨x, rfl⟩ := hx.out; refine ⟨rfl, ?_⟩; simp [go_sem, execOp, *]; (try simp (disch := omega) only [Go.IntWalk.i64_in, Go.IntWalk.rem_in, Go.IntWalk.wrap64_in]); rfl)); (try simp only [Act.put, List.setIfInBounds_toArray, List.set_cons_succ, List.set_cons_zero])))
            (refine VD_vag (fun p => .slice (p 0).1 (8) (p 0).2) (fun p w'' => Own w'' 0 (p 0).1 (8) (p 0).2 (n8s)) (fun p w w' h hx => h.ext hx) (fun us w' hx hf => ⟨rfl, ?_⟩) ?_; (unfold gives; simp [go_sem, execOp]; exact vag_fresh (Nat.zero_le _) (hp8 _)))
            (repeat (apply VD_der; (case h => (intro us w' hx hf; obtain ⟨x, rfl⟩ := hx.out; refine ⟨rfl, ?_⟩; simp [go_sem, execOp, *]; (try simp (disch := omega) only [Go.IntWalk.i64_in, Go.IntWalk.rem_in, Go.IntWalk.wrap64_in]); rfl)); (try simp only [Act.put, List.setIfInBounds_toArray, List.set_cons_succ, List.set_cons_zero])))
            (refine VD_vag (fun p => .slice (p 0).1 2 2) (fun p w'' => Bsc w'' (p 0).1 2 [n8s, head]) (fun p w w' h hx => by first | exact h.ext hx | exact ⟨h.1.ext hx, h.2.ext hx⟩ | exact ⟨h.1.ext hx, h.2⟩ | exact ⟨h.1.ext hx, h.2.1.ext hx, h.2.2.ext hx⟩) (fun us w' hx hf => ⟨rfl, ?_⟩) ?_; (unfold gives; simp [go_sem, execOp]; exact ⟨fun _ => (some ⟨w'.heap.size, 0, none⟩, 0), rfl, Ext.of_alloc _ _, bsc2 (Own.sl (by exact (hf _ (List.mem_append_right _ (List.mem_singleton_self _)) rfl))) (Own.le (by exact (hf _ (List.mem_append_right _ (List.mem_singleton_self _)) rfl))).1 (hSh.ext hx) hle3.1 _⟩))
            (repeat (apply VD_der; (case h => (intro us w' hx hf; obtain ⟨x, rfl⟩ := hx.out; refine ⟨rfl, ?_⟩; simp [go_sem, execOp, *]; (try simp (disch := omega) only [Go.IntWalk.i64_in, Go.IntWalk.rem_in, Go.IntWalk.wrap64_in]); rfl)); (try simp only [Act.put, List.setIfInBounds_toArray, List.set_cons_succ, List.set_cons_zero])))
            (refine VD_vag (fun p => .tuple #[.slice (p 0).1 (m + 16) (p 0).2, .int .i64 0]) (fun p w'' => Sl w'' (p 0).1 (m + 16) (sd) ∧ (m + 16) ≤ (p 0).2) (fun p w w' h hx => ⟨h.1.ext hx, h.2⟩) (fun us w' hx hf => ⟨rfl, ?_⟩) ?_; (unfold gives; simp [go_sem, execOp]; exact vag_read (hseal _ _ _ (h23.ext hx) (hf _ (List.mem_append_right _ (List.mem_singleton_self _)) rfl) (hl3.ext hx))))
            (repeat (apply VD_der; (case h => (intro us w' hx hf; obtain ⟨x, rfl⟩ := hx.out; refine ⟨rfl, ?_⟩; simp [go_sem, execOp, *]; (try simp (disch := omega) only [Go.IntWalk.i64_in, Go.IntWalk.rem_in, Go.IntWalk.wrap64_in]); rfl)); (try simp only [Act.put, List.setIfInBounds_toArray, List.set_cons_succ, List.set_cons_zero])))
            (refine VD_nil ?_; intro us w' hx hf; obtain ⟨x, rfl⟩ := hx.out; (try simp only [Act.put, List.setIfInBounds_toArray, List.set_cons_succ, List.set_cons_zero, wpList_none]); (try simp only [List.mem_cons, List.not_mem_nil, or_false, forall_eq_or_imp, forall_eq, List.nil_append, List.cons_append, List.mem_append, false_or, true_and, and_true] at hf); (try simp only [Nat.reduceAdd, Nat.zero_add] at hf); (try simp only [Nat.reduceAdd, Nat.zero_add]))
            obtain ⟨_, _, hSd, hcd⟩ := hf
            have hEx := hEX.trans hE3
            go_wp2_with (first
              | (refine wpList_load_arr (RC6) rfl _ rfl (w.heap.size) (0) rfl ([.bool ch.cl, .slice a1 ch.sec.length c1, .slice a2 ch.snd.length c2, .slice a3 ch.rcv.length c3, .int .i64 ch.st, .int .i64 ch.rc]) (((hB0.ext x).rd)) (rfl) ?_)
              | fail)
            (with_reducible refine (hcop _ (hv3.ext (Ext.of_ext _ x))).mono ?_)
            rintro e w5 ⟨v, rfl, hvr, hx5⟩
            obtain ⟨b1, d1, b2, d2, b3, d3, rfl, g1, q1, g2, q2, g3, q3⟩ := hvr
            have hE5 := (Ext.of_ext w3 x).trans hx5
            go_wp2_with (first
              | ((refine wpList_alloc_store (RC6) rfl rfl _ _ rfl rfl rfl rfl (by simp [Act.put]) ([.bool ch.cl, .slice b1 ch.sec.length d1, .slice b2 ch.snd.length d2, .slice b3 ch.rcv.length d3, .int .i64 ch.st, .int .i64 ch.rc]) rfl (by simp) (rfl) ((by simp; (repeat' (first | rfl | constructor)))) ?_; intro y hBy _); have y4 := hBy.cell? 4 rfl; have z4 := hBy.free 4)
              | fail)
            refine nameW ?_
            intro W6 hW6
            have hx6 : Ext w5 W6 := by rw [hW6]; exact Ext.setCell (Ext.of_ext _ _) (by simp) _
            have hB6 : Blk W6 w5.heap.size 24 [.bool ch.cl, .slice b1 ch.sec.length d1, .slice b2 ch.snd.length d2, .slice b3 ch.rcv.length d3, .int .i64 (ch.st + 1), .int .i64 ch.rc] := by rw [hW6]; exact hBy.set 4 _
            clear hW6
            haveI := hB6.blt
            refine wp_region_vague 5 [[], [], [], [1, 2], [1, 2, 3], [0, 1, 2, 3, 4], [0, 1, 2, 3, 4, 5], [0, 1, 2, 3, 4, 5, 6]] (by kernel_rfl) (by kernel_rfl) (by kernel_rfl) (by kernel_rfl) ?_; simp only [List.take_succ_cons, List.take_zero, List.drop_succ_cons, List.drop_zero, List.take_nil, List.drop_nil]
            (refine VD_load_arr (RC6) _ rfl (fun _ => rfl) (w5.heap.size) (0) (fun _ => by simp [go_sem]) ([.bool ch.cl, .slice b1 ch.sec.length d1, .slice b2 ch.snd.length d2, .slice b3 ch.rcv.length d3, .int .i64 (ch.st + 1), .int .i64 ch.rc]) (hB6.rd) (rfl) ?_)
            (repeat (apply VD_der; (case h => (intro us w' hx hf; obtain ⟨x, rfl⟩ := hx.out; refine ⟨rfl, ?_⟩; simp [go_sem, execOp, *]; (try simp (disch := omega) only [Go.IntWalk.i64_in, Go.IntWalk.rem_in, Go.IntWalk.wrap64_in]); rfl)); (try simp only [Act.put, List.setIfInBounds_toArray, List.set_cons_succ, List.set_cons_zero])))
            (refine VD_vag (fun p => .slice (p 0).1 (2) (2)) (fun p w'' => Bss w'' (p 0).1 (2) ([head, sd])) (fun p w w' h hx => h.ext hx) (fun us w' hx hf => ⟨rfl, ?_⟩) ?_; (unfold gives; simp [go_sem, execOp]; exact ⟨fun _ => (some ⟨w'.heap.size, 0, none⟩, 0), rfl, Ext.of_alloc _ _, bss2 (hSh.ext ((hE5.trans hx6).trans hx)) (hSd.ext ((hx5.trans hx6).trans hx)) _⟩))
            (refine VD_vag (fun p => .slice (p 0).1 (m + 19) (p 0).2) (fun p w'' => Own w'' 0 (p 0).1 (m + 19) (p 0).2 (head ++ sd)) (fun p w w' h hx => h.ext hx) (fun us w' hx hf => ⟨rfl, ?_⟩) ?_; (unfold gives; simp [go_sem, execOp]; exact vag_fresh (Nat.zero_le _) ((by have := join_any _ 2 2 [head, sd] _ (hf _ (List.mem_append_right _ (List.mem_singleton_self _)) rfl) (by omega) (m + 19) (by rw [joinL2, List.length_append, hhl, hsdl]; omega) (by omega); rwa [joinL2] at this))))
            (refine VD_nil ?_; intro us w' hx hf; obtain ⟨x, rfl⟩ := hx.out; (try simp only [Act.put, List.setIfInBounds_toArray, List.set_cons_succ, List.set_cons_zero, wpList_none]); (try simp only [List.mem_cons, List.not_mem_nil, or_false, forall_eq_or_imp, forall_eq, List.nil_append, List.cons_append, List.mem_append, false_or, true_and, and_true] at hf); (try simp only [Nat.reduceAdd, Nat.zero_add] at hf); (try simp only [Nat.reduceAdd, Nat.zero_add]))
            obtain ⟨_, hO7⟩ := hf
            rw [← hrc.out] at hO7
            have hle7 := hO7.le
            have hE57 := hx6.ext x
            have hR7 := (hR.extB hE5).extB hE57
            haveI := hR7.blt
            go_wp2_with (first
              | (refine wpList_store_arr (RC6) rfl _ _ rfl (w.heap.size + 1) (0) rfl ([.bool ch.cl, .slice b1 ch.sec.length d1, .slice b2 ch.snd.length d2, .slice b3 ch.rcv.length d3, .int .i64 (ch.st + 1), .int .i64 ch.rc]) rfl (24) _ (hR7) (rfl) (by simp) (by first | exact one_u8 _ | (simp; done) | (simp; (repeat' (first | rfl | constructor)))) ?_; intro w9 hB9 hM9)
              | fail)
            refine bodyPost_ret (results_arr_tmp2 Try.results63 RC6 _ _ (w.heap.size + 1) 0 [.bool ch.cl, .slice b1 ch.sec.length d1, .slice b2 ch.snd.length d2, .slice b3 ch.rcv.length d3, .int .i64 (ch.st + 1), .int .i64 ch.rc] rfl hB9.rd rfl _ _ rfl rfl) rfl ?_
            have hE7 := (hEx.trans hE5).trans hE57
            have hE9 : Ext w w9 := Below.trans hE7 (hM9.below (by omega) hE7.size)
            refine ⟨_, _, _, rfl, ChR.mk (c := (keyed ch.cl ch.sec (ch.st + 1) ch.rc)) (Sl.mut (g1.ext hE57) hR7 (by simp) hM9) q1 ?_ q2 ?_ q3, Sl.mut hO7.sl hR7 (by simp) hM9, hle7.1, hE9⟩
            · rw [hks.out]; exact Sl.mut (g2.ext hE57) hR7 (by simp) hM9
            · rw [hkr.out]; exact Sl.mut (g3.ext hE57) hR7 (by simp) hM9
end Go.Proofs.Ytkjdlbjbppbmdaa

/- The walks of layer 20 of the document: Receive, Same. -/
namespace Go.Proofs.Ytkjdlbjbppbmdaa
open Go.RowKit Go.Sec Go.Oct Go.Sha Go.Aes Go.Chan BigFrame

set_option maxRecDepth 100000 in
set_option maxHeartbeats 8000000 in
theorem rrecv_any (v : Value) (ch : Ch) (b : Option Addr) (m d : Nat) (r : List UInt8) (w : World) (hv : ChR w v ch) (hs : ch.sec.length ≤ 1000000) (hl : Sl w b m r) (hmd : m ≤ d) (hm : m ≤ 1000000) :
    Calls Try.prog 24 #[v, .slice b m d] w (RecvP (recvE ch r) w) := by
  have hll := hl.len
  have hval := fun W h => rvalid_any v ch W h hs
  obtain ⟨a1, c1, a2, c2, a3, c3, rfl, h1, k1, h2, k2, h3, k3⟩ := id hv
  cases hV : validC ch
  · have e : recvE ch r = (zeroCh, 0, [], 3) := by unfold recvE; rw [if_pos hV]
    rw [e]
    rw [hV] at hval
    clear hll e
    go_enter Try.func24, Try.ntmps24
    go_wp2_with (first | (go_at_call 67; (with_reducible refine (hval ?_ ?hq215).mono ?_); (case hq215 => (repeat' (first | with_reducible assumption | (with_reducible first | apply ChR.upE | apply ChR.upA | apply ChR.upD)))); rintro e w1 ⟨rfl, hxq⟩; obtain ⟨xq, rfl⟩ := hxq.out; clear hxq) | fail)
    refine bodyPost_ret (v := .tuple #[.agg #[.bool false, .slice none 0 0, .slice none 0 0, .slice none 0 0, .int .i64 0, .int .i64 0], .int .i64 0, .slice none 0 0, .int .i64 3]) (by simp [results, Try.results24, go_sem]) rfl ?_
    exact RecvP.err _ _ _ (by repeat (first | (with_reducible first | exact Ext.refl _ | assumption | apply Ext.alloc | apply Ext.ext | apply Ext.drew | refine Ext.setCell ?_ ?_ _) | (focus (simp [go_sem]; done))))
  · rw [hV] at hval
    by_cases h3m : m < 3
    · have e : recvE ch r = (zeroCh, 0, [], 1) := by unfold recvE; rw [if_neg (by rw [hV]; simp), if_pos (by omega)]
      rw [e]
      have hI0 : (m : Int) < 3 := by omega
      clear hll e
      go_enter Try.func24, Try.ntmps24
      go_wp2_with (first | (go_at_call 67; (with_reducible refine (hval ?_ ?hq216).mono ?_); (case hq216 => (repeat' (first | with_reducible assumption | (with_reducible first | apply ChR.upE | apply ChR.upA | apply ChR.upD)))); rintro e w1 ⟨rfl, hxq⟩; obtain ⟨xq, rfl⟩ := hxq.out; clear hxq) | fail)
      refine bodyPost_ret (v := .tuple #[.agg #[.bool false, .slice none 0 0, .slice none 0 0, .slice none 0 0, .int .i64 0, .int .i64 0], .int .i64 0, .slice none 0 0, .int .i64 1]) (by simp [results, Try.results24, go_sem]) rfl ?_
      exact RecvP.err _ _ _ (by repeat (first | (with_reducible first | exact Ext.refl _ | assumption | apply Ext.alloc | apply Ext.ext | apply Ext.drew | refine Ext.setCell ?_ ?_ _) | (focus (simp [go_sem]; done))))
    · obtain ⟨s, hsm⟩ : ∃ s, m = 3 + s := ⟨m - 3, by omega⟩
      obtain ⟨q, hq⟩ : ∃ q, q = lenC r := ⟨_, rfl⟩
      obtain ⟨pb, po, rfl, hpb, hp0⟩ := hl.atD 0 (by omega)
      have hD := (sl_from hl hmd (i := 1) (by omega)).take 2 (by omega)
      have hgl : n64 (getL ((r.drop 1).take 2)) = (q : Int) := by rw [hq]; rfl
      have hget := fun W hS => rget_any (some ⟨pb, po + 1, none⟩) 2 (d - 1) ((r.drop 1).take 2) W hS (by omega)
      rw [hgl] at hget
      have hq6 : q < 65536 := by
        rw [hq]; unfold lenC
        have := getN_lt ((r.drop 1).take 2)
        have hl2 : ((r.drop 1).take 2).length = 2 := by simp; omega
        rw [getL_nat _ (by omega)]
        rw [hl2] at this
        exact this
      have hwi : IntKind.i64.wrap (q : Int) = (q : Int) := by rw [IntKind.wrap_i64]; omega
      have hd3 : (3 : Int) ≤ (d : Int) := by omega
      have hd1 : (1 : Int) ≤ (d : Int) := by omega
      have hI0 : ¬ (m : Int) < 3 := by omega
      have h0s : (0 : Int) < 3 + (s : Int) := by omega
      have hms : (m : Int) - 3 = (s : Int) := by omega
      by_cases hsq : s < q
      · have e : recvE ch r = (zeroCh, 0, [], 1) := by unfold recvE; rw [if_neg (by rw [hV]; simp), if_neg (by omega), if_pos (by omega)]
        rw [e]
        have hI : (s : Int) < (q : Int) := by omega
        clear hll e hgl hq hsm
        go_enter Try.func24, Try.ntmps24
        go_wp2_with (first | (go_at_call 67; (with_reducible refine (hval ?_ ?hq217).mono ?_); (case hq217 => (repeat' (first | with_reducible assumption | (with_reducible first | apply ChR.upE | apply ChR.upA | apply ChR.upD)))); rintro e w1 ⟨rfl, hxq⟩; obtain ⟨xq, rfl⟩ := hxq.out; clear hxq) | (go_at_call 94; (with_reducible refine (hget ?_ ?hq218).mono ?_); (case hq218 => (repeat' (first | with_reducible assumption | (with_reducible exact zeros16 _) | (with_reducible exact sl_new1 _ _ _) | (with_reducible first | apply Sl.upE | apply Sl.upA | apply Sl.upD)))); rintro e w1 ⟨rfl, hxq⟩; obtain ⟨xq, rfl⟩ := hxq.out; clear hxq) | fail)
        refine bodyPost_ret (v := .tuple #[.agg #[.bool false, .slice none 0 0, .slice none 0 0, .slice none 0 0, .int .i64 0, .int .i64 0], .int .i64 0, .slice none 0 0, .int .i64 1]) (by simp [results, Try.results24, go_sem]) rfl ?_
        exact RecvP.err _ _ _ (by repeat (first | (with_reducible first | exact Ext.refl _ | assumption | apply Ext.alloc | apply Ext.ext | apply Ext.drew | refine Ext.setCell ?_ ?_ _) | (focus (simp [go_sem]; done))))
      · have hI : ¬ (s : Int) < (q : Int) := by omega
        by_cases hqs : q < s
        · have e : recvE ch r = (zeroCh, 0, [], 2) := by unfold recvE; rw [if_neg (by rw [hV]; simp), if_neg (by omega), if_neg (by omega), if_pos (by omega)]
          rw [e]
          have hI2 : (q : Int) < (s : Int) := by omega
          clear hll e hgl hq hsm
          go_enter Try.func24, Try.ntmps24
          go_wp2_with (first | (go_at_call 67; (with_reducible refine (hval ?_ ?hq219).mono ?_); (case hq219 => (repeat' (first | with_reducible assumption | (with_reducible first | apply ChR.upE | apply ChR.upA | apply ChR.upD)))); rintro e w1 ⟨rfl, hxq⟩; obtain ⟨xq, rfl⟩ := hxq.out; clear hxq) | (go_at_call 94; (with_reducible refine (hget ?_ ?hq220).mono ?_); (case hq220 => (repeat' (first | with_reducible assumption | (with_reducible exact zeros16 _) | (with_reducible exact sl_new1 _ _ _) | (with_reducible first | apply Sl.upE | apply Sl.upA | apply Sl.upD)))); rintro e w1 ⟨rfl, hxq⟩; obtain ⟨xq, rfl⟩ := hxq.out; clear hxq) | fail)
          refine bodyPost_ret (v := .tuple #[.agg #[.bool false, .slice none 0 0, .slice none 0 0, .slice none 0 0, .int .i64 0, .int .i64 0], .int .i64 0, .slice none 0 0, .int .i64 2]) (by simp [results, Try.results24, go_sem]) rfl ?_
          exact RecvP.err _ _ _ (by repeat (first | (with_reducible first | exact Ext.refl _ | assumption | apply Ext.alloc | apply Ext.ext | apply Ext.drew | refine Ext.setCell ?_ ?_ _) | (focus (simp [go_sem]; done))))
        · have hI2 : ¬ (q : Int) < (s : Int) := by omega
          by_cases hbig : 16400 < s
          · have e : recvE ch r = (zeroCh, 0, [], 2) := by unfold recvE; rw [if_neg (by rw [hV]; simp), if_neg (by omega), if_neg (by omega), if_pos (by omega)]
            rw [e]
            have hI3 : (16400 : Int) < (q : Int) := by omega
            clear hll e hgl hq hsm
            go_enter Try.func24, Try.ntmps24
            go_wp2_with (first | (go_at_call 67; (with_reducible refine (hval ?_ ?hq221).mono ?_); (case hq221 => (repeat' (first | with_reducible assumption | (with_reducible first | apply ChR.upE | apply ChR.upA | apply ChR.upD)))); rintro e w1 ⟨rfl, hxq⟩; obtain ⟨xq, rfl⟩ := hxq.out; clear hxq) | (go_at_call 94; (with_reducible refine (hget ?_ ?hq222).mono ?_); (case hq222 => (repeat' (first | with_reducible assumption | (with_reducible exact zeros16 _) | (with_reducible exact sl_new1 _ _ _) | (with_reducible first | apply Sl.upE | apply Sl.upA | apply Sl.upD)))); rintro e w1 ⟨rfl, hxq⟩; obtain ⟨xq, rfl⟩ := hxq.out; clear hxq) | fail)
            refine bodyPost_ret (v := .tuple #[.agg #[.bool false, .slice none 0 0, .slice none 0 0, .slice none 0 0, .int .i64 0, .int .i64 0], .int .i64 0, .slice none 0 0, .int .i64 2]) (by simp [results, Try.results24, go_sem]) rfl ?_
            exact RecvP.err _ _ _ (by repeat (first | (with_reducible first | exact Ext.refl _ | assumption | apply Ext.alloc | apply Ext.ext | apply Ext.drew | refine Ext.setCell ?_ ?_ _) | (focus (simp [go_sem]; done))))
          · have hI3 : ¬ (16400 : Int) < (q : Int) := by omega
            by_cases hrc : ch.rc = 1099511627776
            · have e : recvE ch r = (zeroCh, 0, [], 7) := by unfold recvE; rw [if_neg (by rw [hV]; simp), if_neg (by omega), if_neg (by omega), if_neg (by omega), if_pos hrc]
              rw [e]
              have hI4 : (ch.rc == 1099511627776) = true := by simpa using hrc
              clear hll e hgl hq hrc hsm
              go_enter Try.func24, Try.ntmps24
              go_wp2_with (first | (go_at_call 67; (with_reducible refine (hval ?_ ?hq223).mono ?_); (case hq223 => (repeat' (first | with_reducible assumption | (with_reducible first | apply ChR.upE | apply ChR.upA | apply ChR.upD)))); rintro e w1 ⟨rfl, hxq⟩; obtain ⟨xq, rfl⟩ := hxq.out; clear hxq) | (go_at_call 94; (with_reducible refine (hget ?_ ?hq224).mono ?_); (case hq224 => (repeat' (first | with_reducible assumption | (with_reducible exact zeros16 _) | (with_reducible exact sl_new1 _ _ _) | (with_reducible first | apply Sl.upE | apply Sl.upA | apply Sl.upD)))); rintro e w1 ⟨rfl, hxq⟩; obtain ⟨xq, rfl⟩ := hxq.out; clear hxq) | fail)
              refine bodyPost_ret (v := .tuple #[.agg #[.bool false, .slice none 0 0, .slice none 0 0, .slice none 0 0, .int .i64 0, .int .i64 0], .int .i64 0, .slice none 0 0, .int .i64 7]) (by simp [results, Try.results24, go_sem]) rfl ?_
              exact RecvP.err _ _ _ (by repeat (first | (with_reducible first | exact Ext.refl _ | assumption | apply Ext.alloc | apply Ext.ext | apply Ext.drew | refine Ext.setCell ?_ ?_ _) | (focus (simp [go_sem]; done))))
            · have hI4 : (ch.rc == 1099511627776) = false := by simpa using hrc
              obtain ⟨⟨g1, g2, g3, g4, g5⟩, hkey⟩ := valid_keyed hV
              have hopen := fun bA cA cB dB W h1 h2 h3 h4 => ropen_any a3 bA cB ch.rcv.length c3 2 cA s dB ch.rcv [num8 ch.rc, r.take 3] (r.drop 3) W h1 k3 h2 (by omega) h3 h4 (by omega)
              have hin : inC ch r = openE ch.rcv [num8 ch.rc, r.take 3] (r.drop 3) := rfl
              rw [← hin] at hopen
              have hE0 := Lib.hid (show recvE ch r = if (inC ch r).2 ≠ 0 then (zeroCh, 0, [], 6) else (keyed ch.cl ch.sec ch.st (ch.rc + 1), n8 (r.getD 0 0), (inC ch r).1, 0) by unfold recvE; rw [if_neg (by rw [hV]; simp), if_neg (by omega), if_neg (by omega), if_neg (by omega), if_neg hrc])
              rw [hE0.out]
              have hH := hl.take 3 (by omega)
              have hth : (r.take 3).length = 3 := hH.len
              have hw8 := n64_int ch.rc g4 (by omega)
              have hp8 : ∀ W, Calls Try.prog 85 #[.int .u64 (n64 (UInt64.ofNat ch.rc.toNat)), .int .i64 8] W (Fresh 8 (num8 ch.rc) W) := fun W => put_n (UInt64.ofNat ch.rc.toNat) 8 rfl (show (8 : Int) = ((8 : Nat) : Int) from rfl) W (by omega)
              generalize (inC ch r).1 = pl at *
              generalize (inC ch r).2 = er at *
              have hss : ch.snd.length = 32 := by rw [hkey]; exact keyed_snd _ _ _ _
              have hsr : ch.rcv.length = 32 := by rw [hkey]; exact keyed_rcv _ _ _ _
              have hcop := fun W h => rcopy_any (.agg #[.bool ch.cl, .slice a1 ch.sec.length c1, .slice a2 ch.snd.length c2, .slice a3 ch.rcv.length c3, .int .i64 ch.st, .int .i64 ch.rc]) ch W h hs (by omega) (by omega)
              have hks := Lib.hid (show (keyed ch.cl ch.sec ch.st (ch.rc + 1)).snd = ch.snd by rw [show (keyed ch.cl ch.sec ch.st (ch.rc + 1)).snd = (keyed ch.cl ch.sec ch.st ch.rc).snd from rfl, ← hkey])
              have hkr := Lib.hid (show (keyed ch.cl ch.sec ch.st (ch.rc + 1)).rcv = ch.rcv by rw [show (keyed ch.cl ch.sec ch.st (ch.rc + 1)).rcv = (keyed ch.cl ch.sec ch.st ch.rc).rcv from rfl, ← hkey])
              have hh3 : ∃ (ta : Option Addr) (tc : Nat), Sl w ta s (r.drop 3) ∧ s ≤ tc ∧ (Value.slice (if d = 3 then some ⟨pb, po, none⟩ else some ⟨pb, po + 3, none⟩) s (d - 3) = Value.slice ta s tc) := by
                by_cases h : d = 3
                · refine ⟨some ⟨pb, po, none⟩, d - 3, ?_, by omega, by rw [if_pos h]⟩
                  have hs0 : s = 0 := by omega
                  subst hs0
                  rw [List.drop_of_length_le (by omega)]
                  exact Sl.nil _ _
                · refine ⟨some ⟨pb, po + 3, none⟩, d - 3, ?_, by omega, by rw [if_neg h]⟩
                  have := hl.drop d 3 hmd
                  unfold sAdr at this
                  rw [if_neg h] at this
                  simpa [addr_add, show m - 3 = s by omega] using this
              obtain ⟨ta, tc, hT0, htc, hte0⟩ := hh3
              have hte := Lib.hid hte0
              clear hte0
              generalize num8 ch.rc = n8s at *
              generalize UInt64.ofNat ch.rc.toNat = r64 at *
              clear hE0 hin hkey g1 hgl hq hll hrc hss hsr
              by_cases her : er = 0
              · subst her
                rw [if_neg (by simp)]
                go_enter Try.func24, Try.ntmps24
                go_wp2_with (first | (go_at_call 67; (with_reducible refine (hval ?_ ?hq225).mono ?_); (case hq225 => (repeat' (first | with_reducible assumption | (with_reducible first | apply ChR.upE | apply ChR.upA | apply ChR.upD)))); rintro e w1 ⟨rfl, hxq⟩; obtain ⟨xq, rfl⟩ := hxq.out; clear hxq) | (go_at_call 94; (with_reducible refine (hget ?_ ?hq226).mono ?_); (case hq226 => (repeat' (first | with_reducible assumption | (with_reducible exact zeros16 _) | (with_reducible exact sl_new1 _ _ _) | (with_reducible first | apply Sl.upE | apply Sl.upA | apply Sl.upD)))); rintro e w1 ⟨rfl, hxq⟩; obtain ⟨xq, rfl⟩ := hxq.out; clear hxq) | fail)
                refine nameW ?_
                intro W hW
                have hEX : Ext w W := by rw [hW]; exact (by repeat (first | (with_reducible first | exact Ext.refl _ | assumption | apply Ext.alloc | apply Ext.ext | apply Ext.drew | refine Ext.setCell ?_ ?_ _) | (focus (simp [go_sem]; done))))
                have hB0 : Blk W w.heap.size 24 [.bool ch.cl, .slice a1 ch.sec.length c1, .slice a2 ch.snd.length c2, .slice a3 ch.rcv.length c3, .int .i64 ch.st, .int .i64 ch.rc] := by rw [hW]; exact (by repeat (first | assumption | (refine Blk.newAt _ _ _ _ ?_; first | rfl | (simp only [World.size_alloc]; done)) | apply Blk.ext | apply Blk.alloc | (refine Blk.other ?_ ?_ _; rotate_left; (simp <;> omega))))
                have hR : Blk W (w.heap.size + 1) 24 [.bool false, .slice none 0 0, .slice none 0 0, .slice none 0 0, .int .i64 0, .int .i64 0] := by rw [hW]; exact (by repeat (first | assumption | (refine Blk.newAt _ _ _ _ ?_; first | rfl | (simp only [World.size_alloc]; done)) | apply Blk.ext | apply Blk.alloc | (refine Blk.other ?_ ?_ _; rotate_left; (simp <;> omega))))
                have hHW := hH.ext hEX
                have hTW := hT0.ext hEX
                have hh3 := h3.ext hEX
                have hvW := hv.ext hEX
                clear hW
                have f3 := hB0.cell? 3 rfl
                have f5 := hB0.cell? 5 rfl
                haveI := hB0.blt
                haveI := hR.blt
                refine wp_region_vague 17 [[], [0], [], [2], [2, 3], [2, 3, 4], [], [6], [2, 3, 4, 5, 6, 7], [], [9], [0, 1, 2, 3, 4, 5, 6, 7, 8, 9, 10], [0, 1, 2, 3, 4, 5, 6, 7, 8, 9, 10, 11], [0, 1, 2, 3, 4, 5, 6, 7, 8, 9, 10, 11, 12], [0, 1, 2, 3, 4, 5, 6, 7, 8, 9, 10, 11, 12], [0, 1, 2, 3, 4, 5, 6, 7, 8, 9, 10, 11, 12, 13], [0, 1, 2, 3, 4, 5, 6, 7, 8, 9, 10, 11, 12, 13, 14, 15]] (by kernel_rfl) (by kernel_rfl) (by kernel_rfl) (by kernel_rfl) ?_; simp only [List.take_succ_cons, List.take_zero, List.drop_succ_cons, List.drop_zero, List.take_nil, List.drop_nil]
                (repeat (apply VD_der; (case h => (intro us w' hx hf; obtain ⟨x, rfl⟩ := hx.out; refine ⟨rfl, ?_⟩; simp [go_sem, execOp, *]; (try simp (disch := omega) only [Go.IntWalk.i64_in, Go.IntWalk.rem_in, Go.IntWalk.wrap64_in]); rfl)); (try simp only [Act.put, List.setIfInBounds_toArray, List.set_cons_succ, List.set_cons_zero])))
                (refine VD_vag (fun p => .slice (p 0).1 (8) (p 0).2) (fun p w'' => Own w'' 0 (p 0).1 (8) (p 0).2 (n8s)) (fun p w w' h hx => h.ext hx) (fun us w' hx hf => ⟨rfl, ?_⟩) ?_; (unfold gives; simp [go_sem, execOp]; exact vag_fresh (Nat.zero_le _) (hp8 _)))
                (repeat (apply VD_der; (case h => (intro us w' hx hf; obtain ⟨x, rfl⟩ := hx.out; refine ⟨rfl, ?_⟩; simp [go_sem, execOp, *]; (try simp (disch := omega) only [Go.IntWalk.i64_in, Go.IntWalk.rem_in, Go.IntWalk.wrap64_in]); rfl)); (try simp only [Act.put, List.setIfInBounds_toArray, List.set_cons_succ, List.set_cons_zero])))
                (refine VD_vag (fun p => .slice (p 0).1 2 2) (fun p w'' => Bsc w'' (p 0).1 2 [n8s, r.take 3]) (fun p w w' h hx => by first | exact h.ext hx | exact ⟨h.1.ext hx, h.2.ext hx⟩ | exact ⟨h.1.ext hx, h.2⟩ | exact ⟨h.1.ext hx, h.2.1.ext hx, h.2.2.ext hx⟩) (fun us w' hx hf => ⟨rfl, ?_⟩) ?_; (unfold gives; simp [go_sem, execOp]; exact ⟨fun _ => (some ⟨w'.heap.size, 0, none⟩, 0), rfl, Ext.of_alloc _ _, bsc2 (Own.sl (by exact (hf _ (List.mem_append_right _ (List.mem_singleton_self _)) rfl))) (Own.le (by exact (hf _ (List.mem_append_right _ (List.mem_singleton_self _)) rfl))).1 (hHW.ext hx) (by omega) _⟩))
                (repeat (apply VD_der; (case h => (intro us w' hx hf; obtain ⟨x, rfl⟩ := hx.out; refine ⟨rfl, ?_⟩; simp [go_sem, execOp, *]; (try simp (disch := omega) only [Go.IntWalk.i64_in, Go.IntWalk.rem_in, Go.IntWalk.wrap64_in]); rfl)); (try simp only [Act.put, List.setIfInBounds_toArray, List.set_cons_succ, List.set_cons_zero])))
                (refine VD_vag (fun p => .tuple #[.slice (p 0).1 pl.length (p 0).2, .int .i64 0]) (fun p w'' => Sl w'' (p 0).1 pl.length pl ∧ pl.length ≤ (p 0).2) (fun p w w' h hx => ⟨h.1.ext hx, h.2⟩) (fun us w' hx hf => ⟨rfl, ?_⟩) ?_; (unfold gives; simp [go_sem, execOp]; rw [hte.out]; exact vag_read (hopen _ _ _ _ _ (hh3.ext hx) (hf _ (List.mem_append_right _ (List.mem_singleton_self _)) rfl) (hTW.ext hx) htc)))
                (repeat (apply VD_der; (case h => (intro us w' hx hf; obtain ⟨x, rfl⟩ := hx.out; refine ⟨rfl, ?_⟩; simp [go_sem, execOp, *]; (try simp (disch := omega) only [Go.IntWalk.i64_in, Go.IntWalk.rem_in, Go.IntWalk.wrap64_in]); rfl)); (try simp only [Act.put, List.setIfInBounds_toArray, List.set_cons_succ, List.set_cons_zero])))
                (refine VD_nil ?_; intro us w' hx hf; obtain ⟨x, rfl⟩ := hx.out; (try simp only [Act.put, List.setIfInBounds_toArray, List.set_cons_succ, List.set_cons_zero, wpList_none]); (try simp only [List.mem_cons, List.not_mem_nil, or_false, forall_eq_or_imp, forall_eq, List.nil_append, List.cons_append, List.mem_append, false_or, true_and, and_true] at hf); (try simp only [Nat.reduceAdd, Nat.zero_add] at hf); (try simp only [Nat.reduceAdd, Nat.zero_add]))
                obtain ⟨_, _, hSd, hcd⟩ := hf
                rw [hte.out]
                go_wp2_with (first
                  | (refine wpList_load_arr (RC6) rfl _ rfl (w.heap.size) (0) rfl ([.bool ch.cl, .slice a1 ch.sec.length c1, .slice a2 ch.snd.length c2, .slice a3 ch.rcv.length c3, .int .i64 ch.st, .int .i64 ch.rc]) (((hB0.ext x).rd)) (rfl) ?_)
                  | fail)
                (with_reducible refine (hcop _ (hvW.ext (Ext.of_ext _ x))).mono ?_)
                rintro e w5 ⟨v, rfl, hvr, hx5⟩
                obtain ⟨b1, d1, b2, d2, b3, d3, rfl, g1, q1, g2', q2, g3', q3⟩ := hvr
                have hE5 := (Ext.of_ext W x).trans hx5
                go_wp2_with (first
                  | ((refine wpList_alloc_store (RC6) rfl rfl _ _ rfl rfl rfl rfl (by simp [Act.put]) ([.bool ch.cl, .slice b1 ch.sec.length d1, .slice b2 ch.snd.length d2, .slice b3 ch.rcv.length d3, .int .i64 ch.st, .int .i64 ch.rc]) rfl (by simp) (rfl) ((by simp; (repeat' (first | rfl | constructor)))) ?_; intro y hBy _); have y5 := hBy.cell? 5 rfl; have z5 := hBy.free 5)
                  | fail)
                refine nameW ?_
                intro W6 hW6
                have hx6 : Ext w5 W6 := by rw [hW6]; exact Ext.setCell (Ext.of_ext _ _) (by simp) _
                have hB6 : Blk W6 w5.heap.size 24 [.bool ch.cl, .slice b1 ch.sec.length d1, .slice b2 ch.snd.length d2, .slice b3 ch.rcv.length d3, .int .i64 ch.st, .int .i64 (ch.rc + 1)] := by rw [hW6]; exact hBy.set 5 _
                clear hW6
                have hE6 : Ext w W6 := (hEX.trans hE5).trans hx6
                have hR6 := (hR.extB hE5).extB hx6
                have hpb6 : pb < W6.heap.size := Nat.lt_of_lt_of_le hpb.lt hE6.size
                have hc6 : W6.cell? ⟨pb, po, none⟩ = some (.int .u8 (n8 (r.getD 0 0))) := (hE6.cell (p := ⟨pb, po, none⟩) hpb.lt).trans hp0
                have hpg : pb ≠ w.heap.size + 1 := by have := hpb.lt; omega
                have hg6 : w5.heap.size ≠ w.heap.size + 1 := by have := (hR.extB hE5).lt; omega
                haveI := hB6.blt
                haveI : BlkLt pb W6 := ⟨hpb6⟩
                have hSE : ∀ w', Ext (W6) w' → (fun w' => Blk w' w5.heap.size 24 [.bool ch.cl, .slice b1 ch.sec.length d1, .slice b2 ch.snd.length d2, .slice b3 ch.rcv.length d3, .int .i64 ch.st, .int .i64 (ch.rc + 1)] ∧ w'.cell? ⟨pb, po, none⟩ = some (.int .u8 (n8 (r.getD 0 0)))) w' := (fun w' h => ⟨hB6.extB h, (h.cell (p := ⟨pb, po, none⟩) hpb6).trans hc6⟩); have hExt0 : Ext (W6) (W6).drew := Ext.drew (Ext.refl _); refine wp_region_held_drew (S := fun w' => Blk w' w5.heap.size 24 [.bool ch.cl, .slice b1 ch.sec.length d1, .slice b2 ch.snd.length d2, .slice b3 ch.rcv.length d3, .int .i64 ch.st, .int .i64 (ch.rc + 1)] ∧ w'.cell? ⟨pb, po, none⟩ = some (.int .u8 (n8 (r.getD 0 0)))) (by kernel_rfl) (hSE _ hExt0) (fun hHeld => ?_)
                refine wpAnyH_take (i := 0) rfl (by kernel_rfl) (by kernel_rfl) (by kernel_rfl) (fun _ _ _ h => h) (R5.take_load (RC6) _ rfl rfl (w5.heap.size) (0) rfl ([.bool ch.cl, .slice b1 ch.sec.length d1, .slice b2 ch.snd.length d2, .slice b3 ch.rcv.length d3, .int .i64 ch.st, .int .i64 (ch.rc + 1)]) ((fun w' h => h.1.rd)) (rfl)) hHeld ?_; (try simp only [List.getElem_toArray, List.getElem_cons_succ, List.getElem_cons_zero, Act.put, List.setIfInBounds_toArray, List.set_cons_succ, List.set_cons_zero])
                refine wpAnyH_take (i := 1) (v := ?v207) rfl (by kernel_rfl) (by kernel_rfl) (by kernel_rfl) (fun _ _ _ h => h) (Or.inl ⟨by rfl, ?hy207⟩) hHeld ?_; (case hy207 => (intro w' hx; simp [go_sem, execOp, *]; (try simp (disch := omega) only [Go.IntWalk.i64_in, Go.IntWalk.rem_in, Go.IntWalk.wrap64_in]); rfl)); (try simp only [List.getElem_toArray, List.getElem_cons_succ, List.getElem_cons_zero, Act.put, List.setIfInBounds_toArray, List.set_cons_succ, List.set_cons_zero])
                refine wpAnyH_take (i := 2) (v := ?v208) rfl (by kernel_rfl) (by kernel_rfl) (by kernel_rfl) (fun _ _ _ h => h) (Or.inl ⟨by rfl, ?hy208⟩) hHeld ?_; (case hy208 => (intro w' hx; simp [go_sem, execOp, *]; (try simp (disch := omega) only [Go.IntWalk.i64_in, Go.IntWalk.rem_in, Go.IntWalk.wrap64_in]); rfl)); (try simp only [List.getElem_toArray, List.getElem_cons_succ, List.getElem_cons_zero, Act.put, List.setIfInBounds_toArray, List.set_cons_succ, List.set_cons_zero])
                refine wpAnyH_take (i := 3) (v := ?v209) rfl (by kernel_rfl) (by kernel_rfl) (by kernel_rfl) (fun _ _ _ h => h) (Or.inl ⟨by rfl, ?hy209⟩) hHeld ?_; (case hy209 => (intro w' hx; simp [go_sem, execOp, *]; (try simp (disch := omega) only [Go.IntWalk.i64_in, Go.IntWalk.rem_in, Go.IntWalk.wrap64_in]); rfl)); (try simp only [List.getElem_toArray, List.getElem_cons_succ, List.getElem_cons_zero, Act.put, List.setIfInBounds_toArray, List.set_cons_succ, List.set_cons_zero])
                refine wpAnyH_take (i := 4) (v := ?v210) rfl (by kernel_rfl) (by kernel_rfl) (by kernel_rfl) (fun _ _ _ h => h) (Or.inl ⟨by rfl, ?hy210⟩) hHeld ?_; (case hy210 => (intro w' hx; simp [go_sem, execOp, *]; (try simp (disch := omega) only [Go.IntWalk.i64_in, Go.IntWalk.rem_in, Go.IntWalk.wrap64_in]); rfl)); (try simp only [List.getElem_toArray, List.getElem_cons_succ, List.getElem_cons_zero, Act.put, List.setIfInBounds_toArray, List.set_cons_succ, List.set_cons_zero])
                refine wpAnyH_take (i := 5) (v := ?v211) rfl (by kernel_rfl) (by kernel_rfl) (by kernel_rfl) (fun _ _ _ h => h) (Or.inl ⟨by rfl, ?hy211⟩) hHeld ?_; (case hy211 => (intro w' hx; simp [go_sem, execOp, *]; (try simp (disch := omega) only [Go.IntWalk.i64_in, Go.IntWalk.rem_in, Go.IntWalk.wrap64_in]); rfl)); (try simp only [List.getElem_toArray, List.getElem_cons_succ, List.getElem_cons_zero, Act.put, List.setIfInBounds_toArray, List.set_cons_succ, List.set_cons_zero])
                (refine R5.only_store RC6 6 (by kernel_rfl) rfl rfl _ _ rfl (w.heap.size + 1) 0 rfl [.bool ch.cl, .slice b1 ch.sec.length d1, .slice b2 ch.snd.length d2, .slice b3 ch.rcv.length d3, .int .i64 ch.st, .int .i64 (ch.rc + 1)] rfl 24 _ hR6 rfl (by simp) (by simp; (repeat' (first | rfl | constructor))) ?_; intro w9 hB9 hM9)
                have hb9 := Blk.turn hM9 hB6 hg6
                have hS9 : (fun w' => Blk w' w5.heap.size 24 [.bool ch.cl, .slice b1 ch.sec.length d1, .slice b2 ch.snd.length d2, .slice b3 ch.rcv.length d3, .int .i64 ch.st, .int .i64 (ch.rc + 1)] ∧ w'.cell? ⟨pb, po, none⟩ = some (.int .u8 (n8 (r.getD 0 0)))) w9 := ⟨hb9, (World.cell?_of_block (hM9.block pb hpb6 (fun e => hpg (by injection e)))).trans hc6⟩
                refine ⟨hS9, ?_⟩
                (try simp only [List.getElem_toArray, List.getElem_cons_succ, List.getElem_cons_zero, Act.put, List.setIfInBounds_toArray, List.set_cons_succ, List.set_cons_zero])
                (refine R5.any_only 7 (by kernel_rfl) rfl rfl ?_; unfold gives; simp [go_sem, execOp])
                refine ⟨hS9, ?_⟩
                (try simp only [List.getElem_toArray, List.getElem_cons_succ, List.getElem_cons_zero, Act.put, List.setIfInBounds_toArray, List.set_cons_succ, List.set_cons_zero])
                (refine R5.any_only 8 (by kernel_rfl) rfl rfl ?_; unfold gives; simp [go_sem, execOp])
                refine ⟨hS9, ?_⟩
                (try simp only [List.getElem_toArray, List.getElem_cons_succ, List.getElem_cons_zero, Act.put, List.setIfInBounds_toArray, List.set_cons_succ, List.set_cons_zero])
                (refine R5.any_only 9 (by kernel_rfl) rfl rfl ?_; unfold gives; simp [go_sem, execOp])
                refine ⟨hS9, ?_⟩
                (try simp only [List.getElem_toArray, List.getElem_cons_succ, List.getElem_cons_zero, Act.put, List.setIfInBounds_toArray, List.set_cons_succ, List.set_cons_zero])
                refine wpAnyH_done (by kernel_rfl) ?_ _
                have hM9 : Mut (w.heap.size + 1) W6 w9 := Mut.trans (Mut.refl _ _).drew hM9
                go_wp2
                refine bodyPost_ret (results_arr_tmp3 Try.results24 RC6 _ _ (w.heap.size + 1) 0 [.bool ch.cl, .slice b1 ch.sec.length d1, .slice b2 ch.snd.length d2, .slice b3 ch.rcv.length d3, .int .i64 ch.st, .int .i64 (ch.rc + 1)] rfl hB9.rd rfl _ _ _ rfl rfl rfl) rfl ?_
                have hE9 : Ext w w9 := Below.trans hE6 (hM9.below (by omega) hE6.size)
                refine ⟨_, _, _, rfl, ChR.mk (c := (keyed ch.cl ch.sec ch.st (ch.rc + 1))) (Sl.mut (g1.ext hx6) hR6 (by simp) hM9) q1 ?_ q2 ?_ q3, Sl.mut (hSd.ext (hx5.trans hx6)) hR6 (by simp) hM9, hcd, hE9⟩
                · rw [hks.out]; exact Sl.mut (g2'.ext hx6) hR6 (by simp) hM9
                · rw [hkr.out]; exact Sl.mut (g3'.ext hx6) hR6 (by simp) hM9
              · rw [if_pos her]
                have hI5 := ne0 her
                go_enter Try.func24, Try.ntmps24
                go_wp2_with (first | (go_at_call 67; (with_reducible refine (hval ?_ ?hq227).mono ?_); (case hq227 => (repeat' (first | with_reducible assumption | (with_reducible first | apply ChR.upE | apply ChR.upA | apply ChR.upD)))); rintro e w1 ⟨rfl, hxq⟩; obtain ⟨xq, rfl⟩ := hxq.out; clear hxq) | (go_at_call 94; (with_reducible refine (hget ?_ ?hq228).mono ?_); (case hq228 => (repeat' (first | with_reducible assumption | (with_reducible exact zeros16 _) | (with_reducible exact sl_new1 _ _ _) | (with_reducible first | apply Sl.upE | apply Sl.upA | apply Sl.upD)))); rintro e w1 ⟨rfl, hxq⟩; obtain ⟨xq, rfl⟩ := hxq.out; clear hxq) | fail)
                refine nameW ?_
                intro W hW
                have hEX : Ext w W := by rw [hW]; exact (by repeat (first | (with_reducible first | exact Ext.refl _ | assumption | apply Ext.alloc | apply Ext.ext | apply Ext.drew | refine Ext.setCell ?_ ?_ _) | (focus (simp [go_sem]; done))))
                have hB0 : Blk W w.heap.size 24 [.bool ch.cl, .slice a1 ch.sec.length c1, .slice a2 ch.snd.length c2, .slice a3 ch.rcv.length c3, .int .i64 ch.st, .int .i64 ch.rc] := by rw [hW]; exact (by repeat (first | assumption | (refine Blk.newAt _ _ _ _ ?_; first | rfl | (simp only [World.size_alloc]; done)) | apply Blk.ext | apply Blk.alloc | (refine Blk.other ?_ ?_ _; rotate_left; (simp <;> omega))))
                have hR : Blk W (w.heap.size + 1) 24 [.bool false, .slice none 0 0, .slice none 0 0, .slice none 0 0, .int .i64 0, .int .i64 0] := by rw [hW]; exact (by repeat (first | assumption | (refine Blk.newAt _ _ _ _ ?_; first | rfl | (simp only [World.size_alloc]; done)) | apply Blk.ext | apply Blk.alloc | (refine Blk.other ?_ ?_ _; rotate_left; (simp <;> omega))))
                have hHW := hH.ext hEX
                have hTW := hT0.ext hEX
                have hh3 := h3.ext hEX
                have hvW := hv.ext hEX
                clear hW
                have f3 := hB0.cell? 3 rfl
                have f5 := hB0.cell? 5 rfl
                haveI := hB0.blt
                haveI := hR.blt
                refine wp_region_vague 17 [[], [0], [], [2], [2, 3], [2, 3, 4], [], [6], [2, 3, 4, 5, 6, 7], [], [9], [0, 1, 2, 3, 4, 5, 6, 7, 8, 9, 10], [0, 1, 2, 3, 4, 5, 6, 7, 8, 9, 10, 11], [0, 1, 2, 3, 4, 5, 6, 7, 8, 9, 10, 11, 12], [0, 1, 2, 3, 4, 5, 6, 7, 8, 9, 10, 11, 12], [0, 1, 2, 3, 4, 5, 6, 7, 8, 9, 10, 11, 12, 13], [0, 1, 2, 3, 4, 5, 6, 7, 8, 9, 10, 11, 12, 13, 14, 15]] (by kernel_rfl) (by kernel_rfl) (by kernel_rfl) (by kernel_rfl) ?_; simp only [List.take_succ_cons, List.take_zero, List.drop_succ_cons, List.drop_zero, List.take_nil, List.drop_nil]
                (repeat (apply VD_der; (case h => (intro us w' hx hf; obtain ⟨x, rfl⟩ := hx.out; refine ⟨rfl, ?_⟩; simp [go_sem, execOp, *]; (try simp (disch := omega) only [Go.IntWalk.i64_in, Go.IntWalk.rem_in, Go.IntWalk.wrap64_in]); rfl)); (try simp only [Act.put, List.setIfInBounds_toArray, List.set_cons_succ, List.set_cons_zero])))
                (refine VD_vag (fun p => .slice (p 0).1 (8) (p 0).2) (fun p w'' => Own w'' 0 (p 0).1 (8) (p 0).2 (n8s)) (fun p w w' h hx => h.ext hx) (fun us w' hx hf => ⟨rfl, ?_⟩) ?_; (unfold gives; simp [go_sem, execOp]; exact vag_fresh (Nat.zero_le _) (hp8 _)))
                (repeat (apply VD_der; (case h => (intro us w' hx hf; obtain ⟨x, rfl⟩ := hx.out; refine ⟨rfl, ?_⟩; simp [go_sem, execOp, *]; (try simp (disch := omega) only [Go.IntWalk.i64_in, Go.IntWalk.rem_in, Go.IntWalk.wrap64_in]); rfl)); (try simp only [Act.put, List.setIfInBounds_toArray, List.set_cons_succ, List.set_cons_zero])))
                (refine VD_vag (fun p => .slice (p 0).1 2 2) (fun p w'' => Bsc w'' (p 0).1 2 [n8s, r.take 3]) (fun p w w' h hx => by first | exact h.ext hx | exact ⟨h.1.ext hx, h.2.ext hx⟩ | exact ⟨h.1.ext hx, h.2⟩ | exact ⟨h.1.ext hx, h.2.1.ext hx, h.2.2.ext hx⟩) (fun us w' hx hf => ⟨rfl, ?_⟩) ?_; (unfold gives; simp [go_sem, execOp]; exact ⟨fun _ => (some ⟨w'.heap.size, 0, none⟩, 0), rfl, Ext.of_alloc _ _, bsc2 (Own.sl (by exact (hf _ (List.mem_append_right _ (List.mem_singleton_self _)) rfl))) (Own.le (by exact (hf _ (List.mem_append_right _ (List.mem_singleton_self _)) rfl))).1 (hHW.ext hx) (by omega) _⟩))
                (repeat (apply VD_der; (case h => (intro us w' hx hf; obtain ⟨x, rfl⟩ := hx.out; refine ⟨rfl, ?_⟩; simp [go_sem, execOp, *]; (try simp (disch := omega) only [Go.IntWalk.i64_in, Go.IntWalk.rem_in, Go.IntWalk.wrap64_in]); rfl)); (try simp only [Act.put, List.setIfInBounds_toArray, List.set_cons_succ, List.set_cons_zero])))
                (refine VD_vag (fun p => .tuple #[.slice (p 0).1 pl.length (p 0).2, .int .i64 er]) (fun p w'' => Sl w'' (p 0).1 pl.length pl ∧ pl.length ≤ (p 0).2) (fun p w w' h hx => ⟨h.1.ext hx, h.2⟩) (fun us w' hx hf => ⟨rfl, ?_⟩) ?_; (unfold gives; simp [go_sem, execOp]; rw [hte.out]; exact vag_read (hopen _ _ _ _ _ (hh3.ext hx) (hf _ (List.mem_append_right _ (List.mem_singleton_self _)) rfl) (hTW.ext hx) htc)))
                (repeat (apply VD_der; (case h => (intro us w' hx hf; obtain ⟨x, rfl⟩ := hx.out; refine ⟨rfl, ?_⟩; simp [go_sem, execOp, *]; (try simp (disch := omega) only [Go.IntWalk.i64_in, Go.IntWalk.rem_in, Go.IntWalk.wrap64_in]); rfl)); (try simp only [Act.put, List.setIfInBounds_toArray, List.set_cons_succ, List.set_cons_zero])))
                (refine VD_nil ?_; intro us w' hx hf; obtain ⟨x, rfl⟩ := hx.out; (try simp only [Act.put, List.setIfInBounds_toArray, List.set_cons_succ, List.set_cons_zero, wpList_none]); (try simp only [List.mem_cons, List.not_mem_nil, or_false, forall_eq_or_imp, forall_eq, List.nil_append, List.cons_append, List.mem_append, false_or, true_and, and_true] at hf); (try simp only [Nat.reduceAdd, Nat.zero_add] at hf); (try simp only [Nat.reduceAdd, Nat.zero_add]))
                obtain ⟨_, _, hSd, hcd⟩ := hf
                rw [hte.out]
                clear her
                have hRx := hR.ext x
                haveI := hRx.blt
                go_wp2_with (first
                  | (refine wpList_store_arr (RC6) rfl _ _ rfl (w.heap.size + 1) (0) rfl ([.bool false, .slice none 0 0, .slice none 0 0, .slice none 0 0, .int .i64 0, .int .i64 0]) rfl (24) _ (hRx) (rfl) (by simp) (by first | exact one_u8 _ | (simp; done) | (simp; (repeat' (first | rfl | constructor)))) ?_; intro w9 hB9 hM9)
                  | fail)
                refine bodyPost_ret (results_arr_tmp3 Try.results24 RC6 _ _ (w.heap.size + 1) 0 [.bool false, .slice none 0 0, .slice none 0 0, .slice none 0 0, .int .i64 0, .int .i64 0] rfl hB9.rd rfl _ _ _ rfl rfl rfl) rfl ?_
                have hE7 := hEX.ext x
                exact RecvP.err _ _ _ (Below.trans hE7 (hM9.below (by omega) hE7.size))
end Go.Proofs.Ytkjdlbjbppbmdaa

/- Layer 20: what the laws share: Same, light, Ends, a text by the reference. -/
namespace Go.Sec
open Go.RowKit Go.Chan
@[simp] theorem chCells_length (c : Ch) (p : Par) : (chCells c p).length = 6 := rfl
theorem ChQ.chr {c : Ch} {p : Par} {w : World} (h : ChQ c p w) : ChR w (.agg (chCells c p).toArray) c :=
  ⟨_, _, _, _, _, _, rfl, h.s1, h.k1, h.s2, h.k2, h.s3, h.k3⟩
theorem ChR.cells {w : World} {v : Value} {c : Ch} (h : ChR w v c) : ∃ p : Par, v = .agg (chCells c p).toArray ∧ ChQ c p w := by
  obtain ⟨a1, c1, a2, c2, a3, c3, hv, h1, k1, h2, k2, h3, k3⟩ := h
  exact ⟨fun i => if i = 0 then (a1, c1) else if i = 1 then (a2, c2) else (a3, c3), hv, h1, k1, h2, k2, h3, k3⟩
theorem ChQ.mut {c : Ch} {p : Par} {w w' : World} {g : Nat} {T : TypeId} {vs : List Value} (h : ChQ c p w) (hB : Blk w g T vs) (hne : ∀ v ∈ vs, ∀ x, v ≠ .int .u8 x) (hM : Mut g w w') : ChQ c p w' :=
  ⟨Sl.mut h.s1 hB hne hM, h.k1, Sl.mut h.s2 hB hne hM, h.k2, Sl.mut h.s3 hB hne hM, h.k3⟩
end Go.Sec
namespace Go.Chan
open Go.Sha
def endS (s : Nat) : List UInt8 := hmac (sha (wbytes s 20)) (wbytes s 32)
theorem endS_length (s : Nat) : (endS s).length = 32 := hmac_length _ _
end Go.Chan
namespace Go.Proofs.Ytkjdlbjbppbmdaa
open Go.RowKit Go.Sec Go.Oct Go.Sha Go.Aes Go.Chan BigFrame

set_option maxRecDepth 100000 in
set_option maxHeartbeats 4000000 in
theorem chsame_any (u v : Value) (ch : Ch) (w : World) (hu : ChR w u ch) (hv : ChR w v ch) :
    Calls Try.prog 27 #[u, v] w fun e w' => e = .returned (.bool true) ∧ Ext w w' := by
  obtain ⟨a1, c1, a2, c2, a3, c3, rfl, h1, k1, h2, k2, h3, k3⟩ := hu
  obtain ⟨b1, d1, b2, d2, b3, d3, rfl, g1, q1, g2, q2, g3, q3⟩ := hv
  have s1 := fun W h h' => same_any a1 b1 ch.sec.length c1 ch.sec.length d1 ch.sec ch.sec W h h'
  have s2 := fun W h h' => same_any a2 b2 ch.snd.length c2 ch.snd.length d2 ch.snd ch.snd W h h'
  have s3 := fun W h h' => same_any a3 b3 ch.rcv.length c3 ch.rcv.length d3 ch.rcv ch.rcv W h h'
  simp only [beq_self_eq_true] at s1 s2 s3
  go_enter Try.func27, Try.ntmps27
  go_wp2_with (first
    | (go_at_call 26; (with_reducible refine (s1 ?_ ?hq229 ?hq230).mono ?_); (case hq229 => (repeat' (first | with_reducible assumption | (with_reducible exact zeros16 _) | (with_reducible exact sl_new1 _ _ _) | (with_reducible first | apply Sl.upE | apply Sl.upA | apply Sl.upD)))); (case hq230 => (repeat' (first | with_reducible assumption | (with_reducible exact zeros16 _) | (with_reducible exact sl_new1 _ _ _) | (with_reducible first | apply Sl.upE | apply Sl.upA | apply Sl.upD)))); rintro e w1 ⟨rfl, hxq⟩; obtain ⟨xq, rfl⟩ := hxq.out; clear hxq)
    | (go_at_call 26; (with_reducible refine (s2 ?_ ?hq231 ?hq232).mono ?_); (case hq231 => (repeat' (first | with_reducible assumption | (with_reducible exact zeros16 _) | (with_reducible exact sl_new1 _ _ _) | (with_reducible first | apply Sl.upE | apply Sl.upA | apply Sl.upD)))); (case hq232 => (repeat' (first | with_reducible assumption | (with_reducible exact zeros16 _) | (with_reducible exact sl_new1 _ _ _) | (with_reducible first | apply Sl.upE | apply Sl.upA | apply Sl.upD)))); rintro e w1 ⟨rfl, hxq⟩; obtain ⟨xq, rfl⟩ := hxq.out; clear hxq)
    | (go_at_call 26; (with_reducible refine (s3 ?_ ?hq233 ?hq234).mono ?_); (case hq233 => (repeat' (first | with_reducible assumption | (with_reducible exact zeros16 _) | (with_reducible exact sl_new1 _ _ _) | (with_reducible first | apply Sl.upE | apply Sl.upA | apply Sl.upD)))); (case hq234 => (repeat' (first | with_reducible assumption | (with_reducible exact zeros16 _) | (with_reducible exact sl_new1 _ _ _) | (with_reducible first | apply Sl.upE | apply Sl.upA | apply Sl.upD)))); rintro e w1 ⟨rfl, hxq⟩; obtain ⟨xq, rfl⟩ := hxq.out; clear hxq)
    | fail)
  go_ret
  exact ⟨by simp, (by repeat (first | (with_reducible first | exact Ext.refl _ | assumption | apply Ext.alloc | apply Ext.ext | apply Ext.drew | refine Ext.setCell ?_ ?_ _) | (focus (simp [go_sem]; done))))⟩

def lightC (c : Ch) : Bool := decide (c.sec.length ≤ 60) && decide (c.snd.length ≤ 60) && decide (c.rcv.length ≤ 60)
set_option maxRecDepth 100000 in
set_option maxHeartbeats 4000000 in
theorem light20_any (v : Value) (ch : Ch) (w : World) (hv : ChR w v ch) :
    Calls Try.prog 60 #[v] w fun e w' => e = .returned (.bool (lightC ch)) ∧ Ext w w' := by
  obtain ⟨a1, c1, a2, c2, a3, c3, rfl, h1, k1, h2, k2, h3, k3⟩ := hv
  have e := Lib.hid (show lightC ch = (decide (((ch.sec.length : Nat) : Int) ≤ 60) && decide (((ch.snd.length : Nat) : Int) ≤ 60) && decide (((ch.rcv.length : Nat) : Int) ≤ 60)) by
    unfold lightC
    have x1 : decide (((ch.sec.length : Nat) : Int) ≤ 60) = decide (ch.sec.length ≤ 60) := by rw [decide_eq_decide]; omega
    have x2 : decide (((ch.snd.length : Nat) : Int) ≤ 60) = decide (ch.snd.length ≤ 60) := by rw [decide_eq_decide]; omega
    have x3 : decide (((ch.rcv.length : Nat) : Int) ≤ 60) = decide (ch.rcv.length ≤ 60) := by rw [decide_eq_decide]; omega
    rw [x1, x2, x3])
  cases hb1 : decide (((ch.sec.length : Nat) : Int) ≤ 60)
  · rw [hb1] at e
    go_enter Try.func60, Try.ntmps60
    go_wp2_with fail
    go_ret
    exact ⟨by rw [e.out]; rfl, (by repeat (first | (with_reducible first | exact Ext.refl _ | assumption | apply Ext.alloc | apply Ext.ext | apply Ext.drew | refine Ext.setCell ?_ ?_ _) | (focus (simp [go_sem]; done))))⟩
  · cases hb2 : decide (((ch.snd.length : Nat) : Int) ≤ 60)
    · rw [hb1, hb2] at e
      go_enter Try.func60, Try.ntmps60
      go_wp2_with fail
      go_ret
      exact ⟨by rw [e.out]; rfl, (by repeat (first | (with_reducible first | exact Ext.refl _ | assumption | apply Ext.alloc | apply Ext.ext | apply Ext.drew | refine Ext.setCell ?_ ?_ _) | (focus (simp [go_sem]; done))))⟩
    · rw [hb1, hb2] at e
      go_enter Try.func60, Try.ntmps60
      go_wp2_with fail
      go_ret
      exact ⟨by rw [e.out]; simp, (by repeat (first | (with_reducible first | exact Ext.refl _ | assumption | apply Ext.alloc | apply Ext.ext | apply Ext.drew | refine Ext.setCell ?_ ?_ _) | (focus (simp [go_sem]; done))))⟩
end Go.Proofs.Ytkjdlbjbppbmdaa

/- Layer 20: Ends, a text by the reference, the sanity check. -/
namespace Go.Sec
open Go.RowKit Go.Chan
/-- A channel in a block of its own. -/
structure ChB (T : TypeId) (c : Ch) (p : Par) (g : Nat) (w : World) : Prop where
  blk : Blk w g T (chCells c p)
  q : ChQ c p w
theorem ChB.ext {T : TypeId} {c : Ch} {p : Par} {g : Nat} {w w' : World} (h : ChB T c p g w) (hx : Ext w w') : ChB T c p g w' := ⟨h.blk.extB hx, h.q.ext hx⟩
theorem ChB.mut {T T' : TypeId} {c : Ch} {p : Par} {g g' : Nat} {vs : List Value} {w w' : World} (h : ChB T c p g w) (hB : Blk w g' T' vs) (hne : ∀ v ∈ vs, ∀ x, v ≠ .int .u8 x) (hM : Mut g' w w') (hg : g ≠ g') : ChB T c p g w' :=
  ⟨Blk.turn hM h.blk hg, h.q.mut hB hne hM⟩
theorem results_cell2 {P : Program} {fn : Func} {p q : Tmp} {T : TypeId} {n : Nat} (h : fn.results = #[.cell p T, .cell q T]) (hT : RowT P T n) (tmps : Array Value) (w : World) (g g' : Nat) (cs cs' : List Value) (hp : tmps.getD p undef = .pointer (some ⟨g, 0, none⟩)) (hq : tmps.getD q undef = .pointer (some ⟨g', 0, none⟩))
    (hR : Rd w (some ⟨g, 0, none⟩) cs) (hR' : Rd w (some ⟨g', 0, none⟩) cs') (hn : cs.length = n) (hn' : cs'.length = n) : (results fn tmps).run P w = .ok (.tuple #[.agg cs.toArray, .agg cs'.toArray]) w := by
  have hp' : tmps[p]?.getD undef = .pointer (some ⟨g, 0, none⟩) := by simpa using hp
  have hq' : tmps[q]?.getD undef = .pointer (some ⟨g', 0, none⟩) := by simpa using hq
  simp [results, h, hp', hq', asAddr, loadVar_arr hT w g 0 cs hR hn, loadVar_arr hT w g' 0 cs' hR' hn']
def zeroCells : List Value := [.bool false, .slice none 0 0, .slice none 0 0, .slice none 0 0, .int .i64 0, .int .i64 0]
@[simp] theorem zeroCells_length : zeroCells.length = 6 := rfl
theorem zeroCells_no : ∀ v ∈ zeroCells, ∀ x, v ≠ .int .u8 x := by simp [zeroCells]
end Go.Sec
namespace Go.Proofs.Ytkjdlbjbppbmdaa
open Go.RowKit Go.Sec Go.Oct Go.Sha Go.Aes Go.Chan BigFrame

theorem beginE_key (cl : Bool) (s : Nat) : beginE cl (wbytes s 32) (wbytes s 20) = (keyed cl (endS s) 0 0, 0) := by
  unfold beginE endS
  rw [if_neg (by rw [wbytes_length]; omega)]

set_option maxRecDepth 100000 in
set_option maxHeartbeats 8000000 in
theorem ends_any (s : Nat) {sI : Int} (hs : sI = (s : Int)) (w : World) (hs2 : s ≤ 1000000) :
    Calls Try.prog 19 #[.int .i64 sI] w fun e w' => ∃ v1 v2, e = .returned (.tuple #[v1, v2]) ∧ ChR w' v1 (keyed true (endS s) 0 0) ∧ ChR w' v2 (keyed false (endS s) 0 0) ∧ Ext w w' := by
  subst hs
  have hbe := fun cl a b c d W h1 h2 h3 h4 => rbegin_any cl a b 32 c 20 d (wbytes s 32) (wbytes s 20) W h1 h2 h3 h4 (by omega)
  simp only [beginE_key] at hbe
  go_enter Try.func19, Try.ntmps19
  go_wp2_with fail; (with_reducible refine (key_any s rfl _ (by omega)).mono ?_); rintro e w1 ⟨a1, c1, rfl, hO1, hx1⟩
  go_wp2_with fail; (with_reducible refine (wbytes_any s 20 rfl (show (20 : Int) = ((20 : Nat) : Int) from rfl) _ (by omega) (by omega)).mono ?_); rintro e w2 ⟨a2, c2, rfl, hO2, hx2⟩
  have hle1 := hO1.le
  have hle2 := hO2.le
  go_wp2_with fail
  (with_reducible refine (hbe true _ _ _ _ _ (hO1.sl.ext hx2) hle1.1 hO2.sl hle2.1).mono ?_)
  rintro e w3 ⟨v, rfl, hv, hx3⟩
  obtain ⟨p1, rfl, q1⟩ := hv.cells
  have hE3 := (hx1.trans hx2).trans hx3
  have hA := ((Blk.new w #[.bool false, .slice none 0 0, .slice none 0 0, .slice none 0 0, .int .i64 0, .int .i64 0] 24).alloc (.cells #[.bool false, .slice none 0 0, .slice none 0 0, .slice none 0 0, .int .i64 0, .int .i64 0] 24)).extB hE3
  have hB := (Blk.newAt (w.alloc (.cells #[.bool false, .slice none 0 0, .slice none 0 0, .slice none 0 0, .int .i64 0, .int .i64 0] 24)) #[.bool false, .slice none 0 0, .slice none 0 0, .slice none 0 0, .int .i64 0, .int .i64 0] 24 (w.heap.size + 1) (by simp)).extB hE3
  have hEW : Ext w w3 := ((Ext.of_alloc _ _).alloc _).trans hE3
  have hz3 := hE3.size
  simp only [World.size_alloc] at hz3
  clear hO1 hO2 hx1 hx2 hx3 hE3
  go_wp2_with (first
    | (refine wpList_alloc_store (RC6) rfl rfl _ _ rfl rfl rfl rfl (by simp [Act.put]) (chCells (keyed true (endS s) 0 0) p1) rfl (by simp) (rfl) ((chCells_one _ _)) ?_; intro x hBx _)
    | fail)
  obtain ⟨W, hW⟩ : ∃ W, W = w3.ext x := ⟨_, rfl⟩
  rw [← hW]
  have hxW : Ext w3 W := by rw [hW]; exact Ext.of_ext _ _
  have hU : ChB 24 (keyed true (endS s) 0 0) p1 w3.heap.size W := by rw [hW]; exact ⟨hBx, q1.ext (Ext.of_ext _ _)⟩
  have hA := hA.extB hxW
  have hB := hB.extB hxW
  have hEW := hEW.trans hxW
  have hzW := hxW.size
  clear hW hxW
  refine (key_any s rfl _ (by omega)).mono ?_
  rintro e w1 ⟨a1, c1, rfl, hO1, hx1⟩
  go_wp2_with fail; (with_reducible refine (wbytes_any s 20 rfl (show (20 : Int) = ((20 : Nat) : Int) from rfl) _ (by omega) (by omega)).mono ?_); rintro e w2 ⟨a2, c2, rfl, hO2, hx2⟩
  have hle1 := hO1.le
  have hle2 := hO2.le
  go_wp2_with fail
  (with_reducible refine (hbe false _ _ _ _ _ (hO1.sl.ext hx2) hle1.1 hO2.sl hle2.1).mono ?_)
  rintro e w4 ⟨v, rfl, hv, hx3⟩
  obtain ⟨p2, rfl, q2⟩ := hv.cells
  have hE4 := (hx1.trans hx2).trans hx3
  have hA := hA.extB hE4
  have hB := hB.extB hE4
  have hU := hU.ext hE4
  have hEW := hEW.trans hE4
  have hz4 := hE4.size
  clear hO1 hO2 hx1 hx2 hx3 hE4
  go_wp2_with (first
    | (refine wpList_alloc_store (RC6) rfl rfl _ _ rfl rfl rfl rfl (by simp [Act.put]) (chCells (keyed false (endS s) 0 0) p2) rfl (by simp) (rfl) ((chCells_one _ _)) ?_; intro x hBx _)
    | fail)
  obtain ⟨W', hW⟩ : ∃ W, W = w4.ext x := ⟨_, rfl⟩
  rw [← hW]
  have hxW : Ext w4 W' := by rw [hW]; exact Ext.of_ext _ _
  have hV : ChB 24 (keyed false (endS s) 0 0) p2 w4.heap.size W' := by rw [hW]; exact ⟨hBx, q2.ext (Ext.of_ext _ _)⟩
  have hA := hA.extB hxW
  have hB := hB.extB hxW
  have hU := hU.ext hxW
  have hEW := hEW.trans hxW
  clear hW hxW
  have hA1 : Blk W' w.heap.size 24 zeroCells := hA
  have hB1 : Blk W' (w.heap.size + 1) 24 zeroCells := hB
  have hl1 := hEW.size
  have hSE : ∀ w', Ext (W') w' → (fun w' => ChB 24 (keyed true (endS s) 0 0) p1 w3.heap.size w' ∧ ChB 24 (keyed false (endS s) 0 0) p2 w4.heap.size w') w' := (fun w' h => ⟨hU.ext h, hV.ext h⟩); have hExt0 : Ext (W') (W').drew := Ext.drew (Ext.refl _); refine wp_region_held_drew (S := fun w' => ChB 24 (keyed true (endS s) 0 0) p1 w3.heap.size w' ∧ ChB 24 (keyed false (endS s) 0 0) p2 w4.heap.size w') (by kernel_rfl) (hSE _ hExt0) (fun hHeld => ?_)
  refine wpAnyH_take (i := 0) rfl (by kernel_rfl) (by kernel_rfl) (by kernel_rfl) (fun _ _ _ h => h) (R5.take_load (RC6) _ rfl rfl (w3.heap.size) (0) rfl (chCells (keyed true (endS s) 0 0) p1) ((fun w' h => h.1.blk.rd)) (rfl)) hHeld ?_; (try simp only [List.getElem_toArray, List.getElem_cons_succ, List.getElem_cons_zero, Act.put, List.setIfInBounds_toArray, List.set_cons_succ, List.set_cons_zero])
  refine wpAnyH_take (i := 1) rfl (by kernel_rfl) (by kernel_rfl) (by kernel_rfl) (fun _ _ _ h => h) (R5.take_load (RC6) _ rfl rfl (w4.heap.size) (0) rfl (chCells (keyed false (endS s) 0 0) p2) ((fun w' h => h.2.blk.rd)) (rfl)) hHeld ?_; (try simp only [List.getElem_toArray, List.getElem_cons_succ, List.getElem_cons_zero, Act.put, List.setIfInBounds_toArray, List.set_cons_succ, List.set_cons_zero])
  have hA2 := hA1.extB hExt0
  have hB2 := hB1.extB hExt0
  obtain ⟨hUd, hVd⟩ := hHeld
  refine R5.only_store RC6 2 (by kernel_rfl) rfl rfl _ _ rfl w.heap.size 0 rfl (chCells (keyed true (endS s) 0 0) p1) rfl 24 _ hA2 rfl (by simp [zeroCells]) (chCells_one _ _) ?_
  intro w5 hB5 hM5
  have hU5 := hUd.mut hA2 zeroCells_no hM5 (by omega)
  have hV5 := hVd.mut hA2 zeroCells_no hM5 (by omega)
  have hZ5 := Blk.turn hM5 hB2 (by omega)
  refine ⟨⟨hU5, hV5⟩, ?_⟩
  (try simp only [List.getElem_toArray, List.getElem_cons_succ, List.getElem_cons_zero, Act.put, List.setIfInBounds_toArray, List.set_cons_succ, List.set_cons_zero])
  refine R5.only_store RC6 3 (by kernel_rfl) rfl rfl _ _ rfl (w.heap.size + 1) 0 rfl (chCells (keyed false (endS s) 0 0) p2) rfl 24 _ hZ5 rfl (by simp [zeroCells]) (chCells_one _ _) ?_
  intro w6 hB6 hM6
  have hU6 := hU5.mut hZ5 zeroCells_no hM6 (by omega)
  have hV6 := hV5.mut hZ5 zeroCells_no hM6 (by omega)
  have hB5 := Blk.turn hM6 hB5 (by omega)
  refine ⟨⟨hU6, hV6⟩, ?_⟩
  (try simp only [List.getElem_toArray, List.getElem_cons_succ, List.getElem_cons_zero, Act.put, List.setIfInBounds_toArray, List.set_cons_succ, List.set_cons_zero])
  refine wpAnyH_done (by kernel_rfl) ?_ _
  go_wp2
  refine bodyPost_ret (results_cell2 Try.results19 RC6 _ _ w.heap.size (w.heap.size + 1) (chCells (keyed true (endS s) 0 0) p1) (chCells (keyed false (endS s) 0 0) p2) rfl rfl hB5.rd hB6.rd rfl rfl) rfl ?_
  have hE5 : Ext w w5 := Below.trans (hEW.trans hExt0) (hM5.below (by omega) (hEW.trans hExt0).size)
  have hE6 : Ext w w6 := Below.trans hE5 (hM6.below (by omega) hE5.size)
  exact ⟨_, _, rfl, hU6.q.chr, hV6.q.chr, hE6⟩

theorem cap_str (W : World) (l : List UInt8) : l.length ≤ strCap W ⟨l.toArray⟩ := by
  obtain ⟨vs, _, _, h, _⟩ := str_blk W ⟨l.toArray⟩
  simpa [ByteArray.size] using h
set_option maxRecDepth 100000 in
set_option maxHeartbeats 4000000 in
theorem send20_any (v : Value) (ch : Ch) (l : List UInt8) (w : World) (hv : ChR w v ch) (hs : ch.sec.length ≤ 1000000) (hl : l.length ≤ 10000) :
    Calls Try.prog 21 #[v, .string ⟨l.toArray⟩] w (SendP (sendE ch 1 l) w) := by
  have hcv := run_bytes_str U hu8 hst
  have hse := fun x b d m W h1 h2 => rsend_any x ch 1 b m d l W h1 hs h2
  generalize sendE ch 1 l = R at *
  obtain ⟨a1, c1, a2, c2, a3, c3, rfl, h1, k1, h2, k2, h3, k3⟩ := id hv
  go_enter Try.func21, Try.ntmps21
  go_wp2_with fail
  have hcl := fun W => cap_str W l
  generalize hW0 : (w.alloc (.cells #[.bool ch.cl, .slice a1 ch.sec.length c1, .slice a2 ch.snd.length c2, .slice a3 ch.rcv.length c3, .int .i64 ch.st, .int .i64 ch.rc] 24)).alloc (.cells #[.bool false, .slice none 0 0, .slice none 0 0, .slice none 0 0, .int .i64 0, .int .i64 0] 24) = W0
  have hE0 : Ext w W0 := by rw [← hW0]; exact (by repeat (first | (with_reducible first | exact Ext.refl _ | assumption | apply Ext.alloc | apply Ext.ext | apply Ext.drew | refine Ext.setCell ?_ ?_ _) | (focus (simp [go_sem]; done))))
  have hg0 : W0.heap.size = w.heap.size + 2 := by rw [← hW0]; simp
  have hB0 : Blk W0 (w.heap.size + 1) 24 [.bool false, .slice none 0 0, .slice none 0 0, .slice none 0 0, .int .i64 0, .int .i64 0] := by rw [← hW0]; exact Blk.newAt _ #[.bool false, .slice none 0 0, .slice none 0 0, .slice none 0 0, .int .i64 0, .int .i64 0] 24 (w.heap.size + 1) (by simp)
  rw [show w.heap.size + 1 + 1 = W0.heap.size by omega]
  have hxs : Ext W0 (W0.ext (strMore W0 ⟨l.toArray⟩)) := Ext.of_ext _ _
  (with_reducible refine (hse _ _ _ _ _ ((hv.ext hE0).ext hxs) (sl_strB W0 l) (hcl W0)).mono ?_)
  rintro e w2 ⟨v, a, c, rfl, hv2, hS, hc, hx2⟩
  obtain ⟨p, rfl, q⟩ := hv2.cells
  have hx02 := hxs.trans hx2
  have hB2 := hB0.extB hx02
  have hE2 := hE0.trans hx02
  clear hx2 hxs hW0
  haveI := hB2.blt
  go_wp2_with (first
    | (refine wpList_store_arr (RC6) rfl _ _ rfl (w.heap.size + 1) (0) rfl (chCells R.1 p) rfl (24) _ (hB2) (rfl) (by simp) (chCells_one _ _) ?_; intro w9 hB9 hM9)
    | fail)
  refine bodyPost_ret (results_arr_tmp2 Try.results21 RC6 _ _ (w.heap.size + 1) 0 (chCells R.1 p) rfl hB9.rd rfl _ _ rfl rfl) rfl ?_
  exact ⟨_, _, _, rfl, (q.mut hB2 zeroCells_no hM9).chr, Sl.mut hS hB2 zeroCells_no hM9, hc, Below.trans hE2 (hM9.below (by omega) hE2.size)⟩
end Go.Proofs.Ytkjdlbjbppbmdaa

/- Layer 20: the sanity check. -/
namespace Go.Proofs.Ytkjdlbjbppbmdaa
open Go.RowKit Go.Sec Go.Oct Go.Sha Go.Aes Go.Chan BigFrame

def hiS : List UInt8 := [104, 105]
theorem known20_pure : ∃ Z r, beginE true zero16 [] = (keyed true Z 0 0, 0) ∧ beginE false zero16 [] = (keyed false Z 0 0, 0) ∧ Z.length = 32 ∧ r.length = 21 ∧
    sendE (keyed true Z 0 0) 9 hiS = (keyed true Z 1 0, r, 0) ∧ recvE (keyed false Z 0 0) r = (keyed false Z 0 1, 9, hiS, 0) := by
  obtain ⟨Z, hZ⟩ : ∃ Z, hmac (sha []) zero16 = Z := ⟨_, rfl⟩
  have hl : Z.length = 32 := by rw [← hZ]; exact hmac_length _ _
  refine ⟨Z, recC (keyed true Z 0 0) 9 hiS, ?_, ?_, hl, ?_, ?_, ?_⟩
  · unfold beginE; rw [if_neg (by simp [zero16]), hZ]
  · unfold beginE; rw [if_neg (by simp [zero16]), hZ]
  · rw [recC_length (keyed_snd _ _ _ _) _ _ (by decide)]; rfl
  · exact sendE_ok (fit_keyed.2 (by omega)) (by omega) (by omega) (by omega) (by decide)
  · exact recv_send (cl := true) (fit_keyed.2 (by omega)) (by omega) (by omega) (by omega) (by decide)
theorem sl_hi (w : World) (t : TypeId) (fr : Nat × Nat) : Sl (w.alloc (.cells #[.int .u8 104, .int .u8 105] t fr)) (some ⟨w.heap.size, 0, none⟩) 2 hiS := ⟨rfl, rd_marked w #[.int .u8 104, .int .u8 105] t fr⟩
set_option maxRecDepth 100000 in
set_option maxHeartbeats 8000000 in
theorem known20_any (w : World) : Calls Try.prog 25 #[] w fun e w' => e = .returned (.bool true) ∧ Ext w w' := by
  obtain ⟨Z, r, e1, e2, hZ, hr, e3, e4⟩ := known20_pure
  have hb1 := fun a b c d W h1 h2 h3 h4 => begin_any true a b 16 c 0 d zero16 [] W h1 h2 h3 h4 (by omega)
  have hb2 := fun a b c d W h1 h2 h3 h4 => begin_any false a b 16 c 0 d zero16 [] W h1 h2 h3 h4 (by omega)
  rw [e1] at hb1
  rw [e2] at hb2
  have hse := fun v a c W h1 h2 h3 => send_any v (keyed true Z 0 0) 9 a 2 c hiS W h1 (show Z.length ≤ 1000000 by omega) h2 h3
  rw [e3] at hse
  have hre := fun v a c W h1 h2 h3 => recv_any v (keyed false Z 0 0) a 21 c r W h1 (show Z.length ≤ 1000000 by omega) h2 h3 (by omega)
  rw [e4] at hre
  clear e1 e2 e3 e4 hZ
  have hmk := make16
  have hc8 := fun W => Lib.run_convert_bytes_const (P := Try.prog) W 22 5 #[.int .u8 104, .int .u8 105] 2 2 U.sl hu8
  have hstr := run_str_by U hu8 hst
  go_enter Try.func25, Try.ntmps25
  go_wp2_with fail
  (with_reducible refine (hb1 _ _ _ _ _ (zeros16 _) (Nat.le_refl _) (Sl.nil _ _) (Nat.le_refl _)).mono ?_)
  rintro e w1 ⟨v, rfl, hv, hx1⟩
  obtain ⟨p1, rfl, q1⟩ := hv.cells
  have hEW := (Ext.of_alloc w _).trans hx1
  have hz1 := hEW.size
  clear hx1
  go_wp2_with (first
    | (refine wpList_alloc_store (RC6) rfl rfl _ _ rfl rfl rfl rfl (by simp [Act.put]) (chCells (keyed true Z 0 0) p1) rfl (by simp) (rfl) ((chCells_one _ _)) ?_; intro x hBx _)
    | fail)
  obtain ⟨W1, hW⟩ : ∃ W, W = w1.ext x := ⟨_, rfl⟩
  have hxW : Ext w1 W1 := by rw [hW]; exact Ext.of_ext _ _
  rw [← hW] at hBx ⊢
  have hA : ChB 24 (keyed true Z 0 0) p1 w1.heap.size W1 := ⟨hBx, q1.ext hxW⟩
  have hEW := hEW.trans hxW
  clear hW hxW hBx
  (with_reducible refine (hb2 _ _ _ _ _ (zeros16 _) (Nat.le_refl _) (Sl.nil _ _) (Nat.le_refl _)).mono ?_)
  rintro e w2 ⟨v, rfl, hv, hx2⟩
  obtain ⟨p2, rfl, q2⟩ := hv.cells
  have hx12 := (Ext.of_alloc W1 _).trans hx2
  have hA := hA.ext hx12
  have hEW := hEW.trans hx12
  have hlt := hA.blk.lt
  clear hx2 hx12 q1 hv
  go_wp2_with (first
    | (refine wpList_alloc_store (RC6) rfl rfl _ _ rfl rfl rfl rfl (by simp [Act.put]) (chCells (keyed false Z 0 0) p2) rfl (by simp) (rfl) ((chCells_one _ _)) ?_; intro x hBx _)
    | (refine wpList_load_arr (RC6) rfl _ rfl (w1.heap.size) (0) rfl (chCells (keyed true Z 0 0) p1) (((hA.blk.extB (Ext.of_ext _ _)).rd)) (rfl) ?_)
    | fail)
  obtain ⟨W2, hW⟩ : ∃ W, W = w2.ext x := ⟨_, rfl⟩
  have hxW : Ext w2 W2 := by rw [hW]; exact Ext.of_ext _ _
  rw [← hW] at hBx ⊢
  have hA := hA.ext hxW
  have hB : ChB 24 (keyed false Z 0 0) p2 w2.heap.size W2 := ⟨hBx, q2.ext hxW⟩
  have hEW := hEW.trans hxW
  have hltB := hB.blk.lt
  clear hW hxW hBx
  have hx3 : Ext W2 (W2.alloc (.cells #[.int .u8 104, .int .u8 105] 5 (2, 3))) := Ext.of_alloc _ _
  have hS3 := sl_hi W2 5 (2, 3)
  (with_reducible refine (hse _ _ _ _ ((hA.ext hx3).q.chr) hS3 (Nat.le_refl _)).mono ?_)
  rintro e w3 ⟨v, a3, c3, rfl, hv, hS, hc, hx4⟩
  obtain ⟨p3, rfl, q3⟩ := hv.cells
  rw [hr] at hS hc
  have hx34 := hx3.trans hx4
  have hA := hA.ext hx34
  have hB := hB.ext hx34
  have hEW := hEW.trans hx34
  haveI := hA.blk.blt
  clear hx3 hx4 hx34 hS3 hse
  simp only [hr]
  go_wp2_with (first
    | (refine wpList_store_arr (RC6) rfl _ _ rfl (w1.heap.size) (0) rfl (chCells (keyed true Z 1 0) p3) rfl (24) _ (hA.blk) (rfl) (by simp) (chCells_one _ _) ?_; intro w4 hA4 hM4)
    | (refine wpList_load_arr (RC6) rfl _ rfl (w2.heap.size) (0) rfl (chCells (keyed false Z 0 0) p2) (((Blk.turn hM4 hB.blk (by omega)).rd)) (rfl) ?_)
    | fail)
  have hB4 : ChB 24 (keyed false Z 0 0) p2 w2.heap.size w4 := hB.mut hA.blk (chCells_no _ _) hM4 (by omega)
  have hE4 : Ext w w4 := Below.trans hEW (hM4.below (by omega) hEW.size)
  have hS4 := Sl.mut hS hA.blk (chCells_no _ _) hM4
  (with_reducible refine (hre _ _ _ _ hB4.q.chr hS4 hc).mono ?_)
  rintro e w5 ⟨v, a5, c5, rfl, hv, hS5, hc5, hx5⟩
  obtain ⟨p5, rfl, q5⟩ := hv.cells
  have hA5 := hA4.extB hx5
  have hB5 := hB4.ext hx5
  have hE5 := hE4.trans hx5
  haveI := hA5.blt
  haveI := hB5.blk.blt
  clear hre hx5 hA4 hB4 hA hB
  simp only [show hiS.length = 2 from rfl]
  go_wp2_with (first
    | (refine wpList_store_arr (RC6) rfl _ _ rfl (w2.heap.size) (0) rfl (chCells (keyed false Z 0 1) p5) rfl (24) _ (hB5.blk) (rfl) (by simp) (chCells_one _ _) ?_; intro w6 hB6 hM6); (have hA6 := Blk.turn hM6 hA5 (by omega)); (have fA : w6.cell? ⟨w1.heap.size, 4, none⟩ = some (.int .i64 1) := hA6.cell? 4 rfl); (have fB : w6.cell? ⟨w2.heap.size, 5, none⟩ = some (.int .i64 1) := hB6.cell? 5 rfl); (have hs6 : (convert 22 9 (.slice a5 2 c5)).run Try.prog w6 = .ok (.string ⟨#[104, 105]⟩) w6 := hstr w6 a5 2 c5 hiS (Sl.mut hS5 hB5.blk (chCells_no _ _) hM6))
    | fail)
  go_ret
  exact ⟨rfl, Below.trans hE5 (hM6.below (by omega) hE5.size)⟩
end Go.Proofs.Ytkjdlbjbppbmdaa
