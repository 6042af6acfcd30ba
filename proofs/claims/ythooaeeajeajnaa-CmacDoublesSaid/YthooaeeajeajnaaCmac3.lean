/- The walks of layer 5, part three: CMAC of bytes. -/
import Derived.Test.YthooaeeajeajnaaCmac2
import Derived.Test.YthooaeeajeajnaaReg4
namespace Go.Proofs.Ythooaeeajeajnaa
open Go.RowKit Go.Sec Go.Oct Go.Aes BigFrame

set_option maxRecDepth 100000 in
set_option maxHeartbeats 4000000 in
theorem mac_any (g : Nat) (ks wh pt b : List UInt8) (a : Option Addr) (n cap : Nat) (w : World) (hC : Blk w g 80 (ks.map u8v)) (hks : ks.length = 176) (hwh : wh.length = 16) (hpt : pt.length = 16) (hb : Sl w a n b) (hnc : n ≤ cap) (hn : n ≤ 1000000) :
    Calls Try.prog 64 #[.agg (kc g wh pt).toArray, .slice a n cap] w fun e w' => e = .returned (.agg ((macW ks wh pt b).map u8v).toArray) ∧ Ext w w' := by
  have har2 := fun W a len cap => run_arrayAt (P := Try.prog) W 60 5 16 a len cap Try.underlying60
  obtain ⟨nb, hnb⟩ : ∃ nb, Hid (nb = (n - 1) / 16) := ⟨_, Lib.hid rfl⟩
  have hgl := hC.lt
  have hM := Lib.hid (show macW ks wh pt b = enc ks (xor16 (xor16 (cbc ks b nb) (last2 wh pt (b.drop (16 * nb))).1) (last2 wh pt (b.drop (16 * nb))).2) by unfold macW; rw [hb.len, ← hnb.out])
  have hkcl : (kc g wh pt).length = 33 := by simp [kc, hwh, hpt]
  go_enter Try.func64, Try.ntmps64
  go_wp2
  go_loopw [1, 6] (fun v1 _ wr => ∃ (k m : Nat) (ak : Option Addr) (ck : Nat), k ≤ nb ∧ Hid (m + 16 * k = n) ∧ v1 = .slice ak m ck ∧ m ≤ ck ∧ Sl w ak m (b.drop (16 * k)) ∧ Blk wr w.heap.size 71 (kc g wh pt) ∧ Blk wr (w.heap.size + 1) 60 (List.replicate 16 (u8v 0)) ∧ Blk wr (w.heap.size + 1 + 1) 60 ((cbc ks b k).map u8v) ∧ Blk wr g 80 (ks.map u8v) ∧ Ext w wr) (fun v1 _ _ => match v1 with | .slice _ m _ => m | _ => 0)
  case atStart =>
    exact ⟨0, n, a, cap, Nat.zero_le _, Lib.hid rfl, rfl, hnc, hb, (by repeat (first | assumption | (refine Blk.newAt _ _ _ _ ?_; first | rfl | (simp only [World.size_alloc]; done)) | apply Blk.ext | apply Blk.alloc | (refine Blk.other ?_ ?_ _; rotate_left; (simp <;> omega)))), (by repeat (first | assumption | (refine Blk.newAt _ _ _ _ ?_; first | rfl | (simp only [World.size_alloc]; done)) | apply Blk.ext | apply Blk.alloc | (refine Blk.other ?_ ?_ _; rotate_left; (simp <;> omega)))), (by repeat (first | assumption | (refine Blk.newAt _ _ _ _ ?_; first | rfl | (simp only [World.size_alloc]; done)) | apply Blk.ext | apply Blk.alloc | (refine Blk.other ?_ ?_ _; rotate_left; (simp <;> omega)))), (by repeat (first | assumption | (refine Blk.newAt _ _ _ _ ?_; first | rfl | (simp only [World.size_alloc]; done)) | apply Blk.ext | apply Blk.alloc | (refine Blk.other ?_ ?_ _; rotate_left; (simp <;> omega)))), (by repeat (first | (with_reducible first | exact Ext.refl _ | assumption | apply Ext.alloc | apply Ext.ext | apply Ext.drew | refine Ext.setCell ?_ ?_ _) | (focus (simp [go_sem]; done))))⟩
  case round =>
    obtain ⟨k, m, ak, ck, hk, hmk, rfl, hmc, hSl, hK, hR, hV, hCr, hx⟩ := hrel
    have hmk' := hmk.out
    have hnb' := hnb.out
    have hk0 := hK.cell? 0 rfl
    by_cases hlt : k < nb
    · have hm16 : (16 : Int) < (m : Int) := by omega
      have hm17 : 16 < m := by omega
      have hmI : (16 : Int) ≤ (ck : Int) := by omega
      have hm18 : 16 ≤ m := by omega
      obtain ⟨b0, o0, rfl, hb0, _⟩ := hSl.at 0 (by omega)
      have hC1 := Lib.hid (show cbc ks b (k + 1) = enc ks (xor16 (cbc ks b k) ((b.drop (16 * k)).take 16)) from rfl)
      have hcl := cbc_length ks b k
      have htl : ((b.drop (16 * k)).take 16).length = 16 := by rw [List.length_take, hSl.len]; omega
      have hrd := ((hSl.ext hx).take 16 (by omega)).by'
      generalize (b.drop (16 * k)).take 16 = x at *
      generalize cbc ks b k = v at *
      clear hmk' hnb'
      have hSd := hSl.drop ck 16 hmc
      rw [List.drop_drop] at hSd
      unfold sAdr at hSd
      rw [if_neg (by omega)] at hSd
      simp only [Option.map_some, Nat.mul_one, addr_add] at hSd
      go_wp2_with (first
        | (refine wpList_load_arr (R60) rfl _ rfl (b0) (o0) rfl (x.map u8v) (hrd) ((by simpa using htl)) ?_)
        | (refine wpList_alloc_store (R60) rfl rfl _ _ rfl rfl rfl rfl (by simp [Act.put]) (x.map u8v) rfl (by simp) ((by simpa using htl)) (one_u8 _) ?_; intro xx hBx _)
        | fail)
      have hxx : Ext w (wr.ext xx) := hx.ext xx
      have hs1 := hxx.size
      have hwb := hV.lt
      have hKx := hK.ext xx
      have hRx := hR.ext xx
      have hVx := hV.ext xx
      have hCx := hCr.ext xx
      generalize wr.ext xx = W at *
      refine (xor_any (w.heap.size + 1 + 1) 60 v x wr.heap.size 0 W hVx hcl htl hBx.rd (by omega)).mono ?_
      rintro e w2 ⟨rfl, hV2, hM2⟩
      have hK2 := hKx.turn hM2 (by omega)
      have hR2 := hRx.turn hM2 (by omega)
      have hC2 := hCx.turn hM2 (by omega)
      have hx2 : Ext w w2 := Below.trans hxx (hM2.below (by omega) hs1)
      have hk2 := hK2.cell? 0 rfl
      clear hKx hRx hVx hCx hBx hM2 hk0 hK hR hV hCr
      go_wp2_with fail
      refine (enc_any (w.heap.size + 1 + 1) g 0 60 _ ks w2 hV2 (by simp [xor16]) hks hC2.rd (by omega)).mono ?_
      rintro e w3 ⟨rfl, hV3, hM3⟩
      have hK3 := hK2.turn hM3 (by omega)
      have hR3 := hR2.turn hM3 (by omega)
      have hC3 := hC2.turn hM3 (by omega)
      have hx3 : Ext w w3 := Below.trans hx2 (hM3.below (by omega) hx2.size)
      clear hK2 hR2 hC2 hk2 hM3
      go_wp2
      go_roundw
      case rel =>
        refine ⟨k + 1, m - 16, some ⟨b0, o0 + 16, none⟩, ck - 16, by omega, Lib.hid (by have := hmk.out; omega), rfl, by omega, ?_, hK3, hR3, ?_, hC3, hx3⟩
        · rw [show 16 * (k + 1) = 16 * k + 16 by omega]; exact hSd
        · rw [hC1.out]; exact hV3
      case measure => show m - 16 < m; omega
    · obtain rfl : k = nb := by omega
      have hm16 : ¬ (16 : Int) < (m : Int) := by omega
      have hmle : m ≤ 16 := by omega
      have hcl := cbc_length ks b k
      have hr := hSl.len
      generalize cbc ks b k = v at *
      generalize b.drop (16 * k) = r at *
      clear hmk' hnb' hmk hnb hlt hk
      have hKr : Rd wr (some ⟨w.heap.size, 1, none⟩) (wh.map u8v) := by
        have := (hK.rdAt 1).head 16
        simpa [kc, hwh] using this
      have hKp : Rd wr (some ⟨w.heap.size, 17, none⟩) (pt.map u8v) := by
        have := hK.rdAt 17
        have e : (kc g wh pt).drop 17 = pt.map u8v := by
          unfold kc
          rw [List.drop_succ_cons, List.map_append, List.drop_append_of_le_length (by simp [hwh]), List.drop_of_length_le (by simp [hwh])]
          rfl
        rwa [e] at this
      go_wp2
      refine R2.wp_region_vague 6 [[], [], [1], [], [], [0, 3, 4], [0, 1, 2, 3, 4, 5]] (by kernel_rfl) (by kernel_rfl) (by kernel_rfl) (by kernel_rfl) ?_; simp only [List.take_succ_cons, List.take_zero, List.drop_succ_cons, List.drop_zero, List.take_nil, List.drop_nil]
      (repeat (apply R2.VD_der; (case h => (intro us w' hx hf; obtain ⟨x, rfl⟩ := hx.out; refine ⟨rfl, ?_⟩; simp [go_sem, execOp, *]; (try simp (disch := omega) only [Go.IntWalk.i64_in, Go.IntWalk.rem_in, Go.IntWalk.wrap64_in]); rfl)); (try simp only [Act.put, List.setIfInBounds_toArray, List.set_cons_succ, List.set_cons_zero])))
      (refine R2.VD_load_arr (R60) _ rfl (fun _ => rfl) (w.heap.size) (1) (fun _ => by simp [go_sem]) (wh.map u8v) (hKr) ((by simpa using hwh)) ?_)
      (refine R2.VD_alloc _ (List.replicate 16 (u8v 0)) Try.zeroValue60 rfl rfl rfl ?_)
      (refine R2.VD_alloc _ (List.replicate 16 (u8v 0)) Try.zeroValue60 rfl rfl rfl ?_)
      (refine R2.VD_store_self R60 rfl _ _ rfl ((List.replicate 16 (0 : UInt8)).map u8v) rfl (one_u8 _) (fun us w' hx hf => ⟨rfl, ?_⟩) ?_; (have h3 := hf _ (List.mem_append_left _ (List.mem_append_right _ (List.mem_singleton_self _))) rfl; obtain ⟨g7, e7, _, hB7⟩ := h3; exact ⟨g7, _, (by show Value.pointer (us _ 0).1 = _; rw [e7]), hB7⟩))
      (refine R2.VD_nil ?_; intro us w' hx hf hd; obtain ⟨x, rfl⟩ := hx.out; (try simp only [Act.put, List.setIfInBounds_toArray, List.set_cons_succ, List.set_cons_zero, wpList_none]); (try simp only [List.mem_cons, List.not_mem_nil, or_false, forall_eq_or_imp, forall_eq, List.nil_append, List.cons_append, List.mem_append, false_or, true_and, and_true] at hf); (try simp only [Nat.reduceAdd, Nat.zero_add] at hf); (try simp only [Nat.reduceAdd, Nat.zero_add]))
      obtain ⟨⟨g7, e7, h7, hB7⟩, g8, e8, h8, hB8⟩ := hf
      have hne : g7 ≠ g8 := by
        have := hd 3 (by simp) 4 (by simp) (by decide)
        rw [e7, e8] at this
        intro e
        exact this (by rw [e])
      clear hd
      rw [e7, e8]
      clear e7 e8 hx
      have hxW := hx.ext x
      have hs0 := hx.size
      have hl0 := hV.lt
      have hC4 := hCr.ext x
      have hK4 := hK.ext x
      have hR4 := hR.ext x
      have hV4 := hV.ext x
      generalize wr.ext x = W at *
      refine wpList_store_arr R60 rfl _ _ rfl g8 0 rfl (wh.map u8v) rfl 60 _ hB8 (by simpa using hwh) (by simp) (one_u8 _) ?_
      intro w4 hB4 hM4
      have hBw : Blk w4 g8 60 (wh.map u8v) := by simpa using hB4
      have hB7' := hB7.turn hM4 hne
      have hC5 := hC4.turn hM4 (by omega)
      have hK5 := hK4.turn hM4 (by omega)
      have hR5 := hR4.turn hM4 (by omega)
      have hV5 := hV4.turn hM4 (by omega)
      have hxw4 : Ext w w4 := Below.trans hxW (hM4.below (by omega) hxW.size)
      have hs4 := hxw4.size
      have hl5 := hV5.lt
      clear hB7 hC4 hK4 hR4 hV4 hB4 hM4 hB8 hCr hK hR hV hKr hKp hxW
      have hk0 := hK5.cell? 0 rfl
      have hKp : Rd w4 (some ⟨w.heap.size, 17, none⟩) (pt.map u8v) := by
        have := hK5.rdAt 17
        have e : (kc g wh pt).drop 17 = pt.map u8v := by
          unfold kc
          rw [List.drop_succ_cons, List.map_append, List.drop_append_of_le_length (by simp [hwh]), List.drop_of_length_le (by simp [hwh])]
          rfl
        rwa [e] at this
      by_cases h16 : m = 16
      case' pos =>
        subst h16
        have HL := Lib.hid (show last2 wh pt r = (r, wh) by unfold last2; rw [if_pos hr])
        have hsl : wh.length = 16 := hwh
        have hql : r.length = 16 := hr
        obtain ⟨b0, o0, rfl, hb0, _⟩ := hSl.at 0 (by omega)
        have hrr := (hSl.ext hxw4).by'
        go_wp2_with (first
          | (refine wpList_load_arr (R60) rfl _ rfl (b0) (o0) rfl (r.map u8v) (hrr) ((by simpa using hr)) ?_)
          | (refine wpList_store_arr (R60) rfl _ _ rfl (g7) (0) rfl (r.map u8v) rfl (60) _ (hB7') ((by simpa using hr)) (by simp) (by first | exact one_u8 _ | simp) ?_; intro w5 hB5 hM5)
          | fail)
        have hq : Blk w5 g7 60 (r.map u8v) := by simpa [hr] using hB5
        have hsb := hBw.turn hM5 (Ne.symm hne)
        have hC6 := hC5.turn hM5 (by omega)
        have hK6 := hK5.turn hM5 (by omega)
        have hR6 := hR5.turn hM5 (by omega)
        have hV6 := hV5.turn hM5 (by omega)
        have hxw6 : Ext w w5 := Below.trans hxw4 (hM5.below (by omega) hxw4.size)
      case' neg =>
        have hm15 : m < 16 := by omega
        have HL := Lib.hid (show last2 wh pt r = (fill r, pt) by unfold last2; rw [if_neg (by omega)])
        have hmI : ((m : Int) == 16) = false := by rw [beq_eq_false_iff_ne]; omega
        have hsl : pt.length = 16 := hpt
        have hql : (fill r).length = 16 := fill_length r (by omega)
        go_wp2
        refine R4.wp_region_vague 5 [[], [0], [], [2], [0, 1], [0, 1, 2, 3, 4]] ([g7]) (by kernel_rfl) (by kernel_rfl) (by kernel_rfl) (by kernel_rfl) ?_; simp only [List.take_succ_cons, List.take_zero, List.drop_succ_cons, List.drop_zero, List.take_nil, List.drop_nil]
        (repeat (apply R4.VD_der; (case h => (intro us w' hx hf; refine ⟨rfl, ?_⟩; simp [go_sem, execOp, *]; (try simp (disch := omega) only [Go.IntWalk.i64_in, Go.IntWalk.rem_in, Go.IntWalk.wrap64_in]); rfl)); (try simp only [Act.put, List.setIfInBounds_toArray, List.set_cons_succ, List.set_cons_zero])))
        (refine R4.VD_vag (fun _ => .agg ((fill r).map u8v).toArray) (fun _ _ => True) ⟨(fun _ h => by cases h), fun _ _ _ _ _ => trivial⟩ (fun us w' hx hf => ⟨rfl, ?_⟩) ?_; (unfold gives; simp [go_sem, execOp]; refine (filled_any ak m ck r _ (hSl.ext (Below.trans hxw4 (hx.mut.below (by omega) hxw4.size))) hm15).mono ?_; rintro e w1 ⟨rfl, hx1⟩; first | exact ⟨rfl, hx1⟩ | simpa using hx1))
        (repeat (apply R4.VD_der; (case h => (intro us w' hx hf; refine ⟨rfl, ?_⟩; simp [go_sem, execOp, *]; (try simp (disch := omega) only [Go.IntWalk.i64_in, Go.IntWalk.rem_in, Go.IntWalk.wrap64_in]); rfl)); (try simp only [Act.put, List.setIfInBounds_toArray, List.set_cons_succ, List.set_cons_zero])))
        (refine R4.VD_load_arr R60 (.tmp 32) rfl rfl w.heap.size 17 (by simp; omega) (fun _ => rfl) (pt.map u8v) hKp (by simpa using hpt) ?_)
        (refine R4.VD_store R60 rfl _ _ rfl rfl g7 0 (by simp) (by simp) 60 _ hB7' (by simp) (fun _ => (fill r).map u8v) (fun _ => ⟨by simpa using hql, one_u8 _⟩) (fun _ _ => True) (fun _ _ _ h _ => h) (fun us w' hx hf => ⟨rfl, fun _ => (none, 0), rfl, trivial⟩) ?_)
        (refine R4.VD_nil ?_; intro us w' hx hf hd; (try simp only [Act.put, List.setIfInBounds_toArray, List.set_cons_succ, List.set_cons_zero, wpList_none]); (try simp only [List.mem_cons, List.not_mem_nil, or_false, forall_eq_or_imp, forall_eq, List.nil_append, List.cons_append, List.mem_append, false_or, true_and, and_true] at hf); (try simp only [Nat.reduceAdd, Nat.zero_add] at hf); (try simp only [Nat.reduceAdd, Nat.zero_add]))
        clear hd
        have hM5 := hx.mut
        have hq1 : Blk w' g7 60 ((fill r).map u8v) := by simpa using hf
        have hsb1 := hBw.turn hM5 (Ne.symm hne)
        have hC51 := hC5.turn hM5 (by omega)
        have hK51 := hK5.turn hM5 (by omega)
        have hR51 := hR5.turn hM5 (by omega)
        have hV51 := hV5.turn hM5 (by omega)
        have hxw5 : Ext w w' := Below.trans hxw4 (hM5.below (by omega) hxw4.size)
        have hs5 := hxw5.size
        clear hf hx hM5 hC5 hK5 hR5 hV5 hBw hB7' hk0 hKp hxw4
        refine wpList_store_arr R60 rfl _ _ rfl g8 0 rfl (pt.map u8v) rfl 60 _ hsb1 (by simpa using hpt) (by simp [hwh]) (one_u8 _) ?_
        intro w5 hB5 hM6
        have hsb : Blk w5 g8 60 (pt.map u8v) := by
          have e : (wh.map u8v).drop 16 = [] := List.drop_of_length_le (by simp [hwh])
          rw [Nat.zero_add, e] at hB5
          simpa using hB5
        have hq := hq1.turn hM6 hne
        have hC6 := hC51.turn hM6 (by omega)
        have hK6 := hK51.turn hM6 (by omega)
        have hR6 := hR51.turn hM6 (by omega)
        have hV6 := hV51.turn hM6 (by omega)
        have hxw6 : Ext w w5 := Below.trans hxw5 (hM6.below (by omega) hxw5.size)
        clear hq1 hsb1 hC51 hK51 hR51 hV51 hB5 hM6
        go_wp2_with fail
      all_goals
        have hs6 := hxw6.size
        have hk6 := hK6.cell? 0 rfl
        refine (xor_any (w.heap.size + 1 + 1) 60 v _ g7 0 w5 hV6 hcl hql hq.rd (by omega)).mono ?_
        rintro e w6 ⟨rfl, hV7, hM7⟩
        have hs7 := hsb.turn hM7 (by omega)
        have hC7 := hC6.turn hM7 (by omega)
        have hK7 := hK6.turn hM7 (by omega)
        have hR7 := hR6.turn hM7 (by omega)
        have hxw7 : Ext w w6 := Below.trans hxw6 (hM7.below (by omega) hxw6.size)
        clear hM7 hq hsb hC6 hK6 hR6 hV6 hk6
        go_wp2_with fail
        refine (xor_any (w.heap.size + 1 + 1) 60 _ _ g8 0 w6 hV7 (by simp [xor16]) hsl hs7.rd (by omega)).mono ?_
        rintro e w7 ⟨rfl, hV8, hM8⟩
        have hC8 := hC7.turn hM8 (by omega)
        have hK8 := hK7.turn hM8 (by omega)
        have hR8 := hR7.turn hM8 (by omega)
        have hxw8 : Ext w w7 := Below.trans hxw7 (hM8.below (by omega) hxw7.size)
        have hk8 := hK8.cell? 0 rfl
        clear hM8 hs7 hC7 hK7 hR7 hV7
        go_wp2_with fail
        refine (enc_any (w.heap.size + 1 + 1) g 0 60 _ ks w7 hV8 (by simp [xor16]) hks hC8.rd (by omega)).mono ?_
        rintro e w8 ⟨rfl, hV9, hM9⟩
        have hR9 := hR8.turn hM9 (by omega)
        have hxw9 : Ext w w8 := Below.trans hxw8 (hM9.below (by omega) hxw8.size)
        clear hM9 hC8 hK8 hR8 hV8 hk8
        rw [HL.out] at hM
        rw [← hM.out] at hV9
        have hml := macW_length ks wh pt b
        go_wp2_with (first
          | (refine wpList_load_arr (R60) rfl _ rfl (w.heap.size + 1 + 1) (0) rfl ((macW ks wh pt b).map u8v) (hV9.rd) ((by simpa using hml)) ?_)
          | (refine wpList_store_arr (R60) rfl _ _ rfl (w.heap.size + 1) (0) rfl ((macW ks wh pt b).map u8v) rfl (60) _ (hR9) ((by simpa using hml)) (by simp) (by first | exact one_u8 _ | simp) ?_; intro w9 hB9 hM10))
        have hR10 : Blk w9 (w.heap.size + 1) 60 ((macW ks wh pt b).map u8v) := by simpa using hB9
        refine bodyPost_ret (results_arr Try.results64 (R60) _ _ (w.heap.size + 1) (0) ((macW ks wh pt b).map u8v) rfl (hR10.rd) ((by simpa using hml))) rfl ?_
        exact ⟨rfl, Below.trans hxw9 (hM10.below (by omega) hxw9.size)⟩
end Go.Proofs.Ythooaeeajeajnaa
