/- Lemmas of this claim, several texts joined. -/
import Derived.Laws.CopyOwn
import Derived.Test.YtdmifbfgeeldnaaZ5
import Derived.Test.YtdmifbfgeeldnaaZ11
import Derived.Test.YtdmifbfgeeldnaaZ15
import Derived.Test.YtdmifbfgeeldnaaZ17
import Derived.Test.YtdmifbfgeeldnaaZ20
import Derived.Test.YtdmifbfgeeldnaaZ27
set_option linter.unusedVariables false
set_option linter.unusedSimpArgs false
/- The walks of layer 5, part one. -/
namespace Go.Proofs.Ytdmifbfgeeldnaa
open Go.RowKit Go.Sec Go.Oct Go.Aes BigFrame

theorem mul135 (x : UInt8) : IntKind.u8.wrap (n8 x * 135) = n8 (x * 135) := by
  have h : (x * 135).toNat = x.toNat * 135 % 256 := UInt8.toNat_mul _ _
  unfold n8
  rw [IntKind.wrap_u8, h]
  omega
theorem at_end (l : List UInt8) (h : l.length = 16) : at' l 16 = 0 := by simp [at', h]

set_option maxRecDepth 100000 in
set_option maxHeartbeats 2000000 in
theorem twice_any (l : List UInt8) (hl : l.length = 16) (w : World) :
    Calls Try.prog 71 #[.agg (l.map u8v).toArray] w fun e w' => e = .returned (.agg ((tw l).map u8v).toArray) ∧ Ext w w' := by
  have hal : Try.prog.arrayLen 99 = 16 := by kernel_rfl
  go_enter Try.func71, Try.ntmps71
  go_wp2_with ((refine wpList_alloc_store (R60) rfl rfl _ _ rfl rfl rfl rfl (by simp [Act.put]) ((List.replicate 16 (0 : UInt8)).map u8v) rfl (by simp) (rfl) (one_u8 _) ?_; intro x hBx _))
  simp only [World.size_alloc] at hBx
  go_loopw [4, 5] (fun v4 v5 wr => ∃ k : Nat, k ≤ 16 ∧ v5 = .int .i64 ((k : Int) - 1) ∧ v4 = .int .u8 (n8 (at' l k >>> 7)) ∧ Blk wr w.heap.size 99 (l.map u8v) ∧ Blk wr (w.heap.size + 1 + 1) 99 ((dn (twG l) k).map u8v) ∧ Blk wr (w.heap.size + 1) 99 ((List.replicate 16 (0 : UInt8)).map u8v) ∧ Ext w wr) (fun _ v5 _ => (intOf v5 + 1).toNat)
  case atStart =>
    exact ⟨16, by omega, rfl, by rw [at_end _ hl]; rfl, (by repeat (first | assumption | (refine Blk.newAt _ _ _ _ ?_; first | rfl | (simp only [World.size_alloc]; done)) | apply Blk.ext | apply Blk.alloc | (refine Blk.other ?_ ?_ _; rotate_left; (simp <;> omega)))), by rw [dn_full]; exact hBx, (by repeat (first | assumption | (refine Blk.newAt _ _ _ _ ?_; first | rfl | (simp only [World.size_alloc]; done)) | apply Blk.ext | apply Blk.alloc | (refine Blk.other ?_ ?_ _; rotate_left; (simp <;> omega)))), (by repeat (first | (with_reducible first | exact Ext.refl _ | assumption | apply Ext.alloc | apply Ext.ext | apply Ext.drew | refine Ext.setCell ?_ ?_ _) | (focus (simp [go_sem]; done))))⟩
  case round =>
    obtain ⟨k, hk, rfl, rfl, hBl, hBo, hBz, hx⟩ := hrel
    by_cases h0 : 0 < k
    · obtain ⟨j, rfl⟩ : ∃ j, k = j + 1 := ⟨k - 1, by omega⟩
      have hj : j < 16 := by omega
      have hc := hBl.cell? j (v := .int .u8 (n8 (at' l j))) (by rw [List.getElem?_map, at_get _ _ (by omega)]; simp [show j < l.length by omega])
      obtain ⟨vo, hvo⟩ : ∃ v, wr.cell? ⟨w.heap.size + 1 + 1, j, none⟩ = some v := ⟨_, hBo.cell j (by rw [List.length_map, dn_length _ _ hk]; exact hj)⟩
      have hf := hBo.free j
      have HG := Lib.hid (show twG l j = (at' l j <<< 1) ||| (at' l (j + 1) >>> 7) from rfl)
      have HD := Lib.hid (dn_set (twG l) j hj)
      have j0 : (0 : Int) ≤ (j : Int) := by omega
      have j1 : (j : Int) < 16 := by omega
      haveI := hBo.blt
      go_wp2
      go_roundw
      case rel =>
        refine ⟨j, by omega, by go_num, rfl, (by repeat (first | assumption | (refine Blk.newAt _ _ _ _ ?_; first | rfl | (simp only [World.size_alloc]; done)) | apply Blk.ext | apply Blk.alloc | (refine Blk.other ?_ ?_ _; rotate_left; (simp <;> omega)))), ?_, (by repeat (first | assumption | (refine Blk.newAt _ _ _ _ ?_; first | rfl | (simp only [World.size_alloc]; done)) | apply Blk.ext | apply Blk.alloc | (refine Blk.other ?_ ?_ _; rotate_left; (simp <;> omega)))), Ext.setCell hx (by simp <;> omega) _⟩
        have := hBo.set j (u8v (twG l j))
        rw [← List.map_set, HD.out, HG.out] at this
        exact this
      case measure => simp [intOf] <;> omega
    · obtain rfl : k = 0 := by omega
      have HT := Lib.hid (tw_eq l)
      rw [dn_zero] at hBo
      have hm := mul135 (at' l 0 >>> 7)
      have hm2 : n8 (at' l 0 >>> 7) * 135 % 256 = n8 ((at' l 0 >>> 7) * 135) := by rw [← hm, IntKind.wrap_u8]; rfl
      have hc := hBo.cell? 15 (v := .int .u8 (n8 (twG l 15))) (by simp)
      have hf := hBo.free 15
      haveI := hBo.blt
      have hBs := hBo.set 15 (u8v (twG l 15 ^^^ ((at' l 0 >>> 7) * 135)))
      rw [← List.map_set, HT.out] at hBs
      go_wp2_with (first
        | (refine wpList_load_arr (R60) rfl _ rfl (w.heap.size + 1 + 1) (0) rfl ((tw l).map u8v) (hBs.rd) ((by simp [tw_length])) ?_)
        | (refine wpList_store_arr (R60) rfl _ _ rfl (w.heap.size + 1) (0) rfl ((tw l).map u8v) rfl (99) _ ((hBz.other (by simp) _)) ((by simp [tw_length])) (by simp) (by first | exact one_u8 _ | (simp; done) | (simp; (repeat' (first | rfl | constructor)))) ?_; intro ws hB hM))
      have hB : Blk ws (w.heap.size + 1) 99 ((tw l).map u8v) := by simpa [tw_length] using hB
      refine bodyPost_ret (results_arr Try.results71 (R60) _ _ (w.heap.size + 1) (0) ((tw l).map u8v) rfl (hB.rd) ((by simp [tw_length]))) rfl ?_
      exact ⟨rfl, Below.trans (Ext.setCell hx (by simp <;> omega) _) (hM.below (by simp) (Ext.setCell hx (by simp <;> omega) _).size)⟩

/-- The cells of a cipher with its subkeys. -/
def kc (c : Nat) (wh pt : List UInt8) : List Value := .pointer (some ⟨c, 0, none⟩) :: (wh ++ pt).map u8v
theorem R71 : RowT Try.prog 101 33 := ⟨⟨_, Try.underlying101, rfl⟩, by kernel_rfl, ⟨_, Try.zeroValue101, by kernel_rfl⟩⟩
set_option maxRecDepth 100000 in
set_option maxHeartbeats 2000000 in
theorem ready_any (a : Option Addr) (c : Nat) (ky : List UInt8) (w : World) (h : Sl w a 16 ky) (hc : 16 ≤ c) :
    Calls Try.prog 64 #[.slice a 16 c] w fun e w' => ∃ g, e = .returned (.tuple #[.agg (kc g (sub1 (expand ky)) (sub2 (expand ky))).toArray, .int .i64 0]) ∧ w.heap.size ≤ g ∧ Blk w' g 117 ((expand ky).map u8v) ∧ Ext w w' := by
  have hkl := h.len
  have HK : (expand ky).length = 176 := words_length ky 40 hkl
  have HS1 := Lib.hid (show sub1 (expand ky) = tw (enc (expand ky) zero16) from rfl)
  have HS2 := Lib.hid (show sub2 (expand ky) = tw (sub1 (expand ky)) from rfl)
  have hL1 : (sub1 (expand ky)).length = 16 := tw_length _
  have hL2 : (sub2 (expand ky)).length = 16 := tw_length _
  generalize sub2 (expand ky) = k2 at *
  generalize sub1 (expand ky) = k1 at *
  generalize hks : expand ky = ks at *
  go_enter Try.func64, Try.ntmps64
  go_wp2_with fail
  refine (new_any a c ky _ (h.ext (by repeat (first | (with_reducible first | exact Ext.refl _ | assumption | apply Ext.alloc | apply Ext.ext | apply Ext.drew | refine Ext.setCell ?_ ?_ _) | (focus (simp [go_sem]; done))))) hc).mono ?_
  rintro e w1 ⟨g, rfl, hg, hB1, hx1⟩
  rw [hks] at hB1
  clear hks
  obtain ⟨zs, hzl, hz⟩ : ∃ zs : List Value, zs.length = 33 ∧ Blk w1 w.heap.size 101 zs := ⟨_, rfl, (Blk.new _ _ _).extB hx1⟩
  have hxw : Ext w w1 := Ext.trans (Ext.of_alloc _ _) hx1
  simp only [World.size_alloc] at hg
  clear hx1
  have hgl := hB1.lt
  have hwl := hz.lt
  go_wp2_with ((refine wpList_alloc_store (R71) rfl rfl _ _ rfl rfl rfl rfl (by simp [Act.put]) ((.pointer (some ⟨g, 0, none⟩) :: List.replicate 32 (u8v 0))) rfl (by simp) (rfl) ((by intro u hu; simp at hu; rcases hu with rfl | rfl <;> rfl)) ?_; intro x hBk _); have hk0 := hBk.cell? 0 rfl)
  have hkl' := hBk.lt
  have hzx := (hz.ext x)
  have hsx : w1.heap.size ≤ (w1.ext x).heap.size := (Ext.of_ext w1 x).size
  have hxe : Ext w ((w1.ext x)) := hxw.ext x
  have hB1x := hB1.ext x
  clear hk0
  generalize hW : w1.ext x = W at *
  refine (enc_any W.heap.size g 0 99 zero16 ks _ (Blk.newAt _ _ _ _ rfl) rfl HK (hB1x.alloc _).rd (by omega)).mono ?_
  rintro e w2 ⟨rfl, hBe, hM2⟩
  have hB2 := (hB1x.alloc _).turn hM2 (by omega)
  have hBk2 := (hBk.alloc _).turn hM2 (by omega)
  have hz2 := (hzx.alloc _).turn hM2 (by omega)
  have hx2 : Ext w w2 := Below.trans (b := W.alloc _) (hxe.alloc _) (hM2.below (by have := hxe.size; omega) (by simp; have := hxe.size; omega))
  clear hM2 hB1x hBk hzx
  have hs2 : W.heap.size < w2.heap.size := hBe.lt
  go_wp2_with (first
    | (refine wpList_load_arr (R60) rfl _ rfl (W.heap.size) (0) rfl ((enc ks zero16).map u8v) (hBe.rd) ((by simp [enc_length])) ?_)
    | fail)
  refine (twice_any _ (enc_length _ _) _).mono ?_
  rintro e w3 ⟨rfl, hx3⟩
  rw [← HS1.out]
  have hBk3 := hBk2.extB hx3
  have hz3 := hz2.extB hx3
  have hB3 := hB2.extB hx3
  have hxw3 := hx2.trans hx3
  have hs3 := hx3.size
  clear hBk2 hz2 hB2 hBe
  have hw1 : w.heap.size < w1.heap.size := hwl
  go_wp2_with (first
    | (refine wpList_store_arr (R60) rfl _ _ rfl (w1.heap.size) (1) rfl (k1.map u8v) rfl (101) _ (hBk3) ((by simpa using hL1)) (by simp) (by first | exact one_u8 _ | (simp; done) | (simp; (repeat' (first | rfl | constructor)))) ?_; intro w4 hBk4 hM4); have hk4 : Blk w4 w1.heap.size 101 (.pointer (some ⟨g, 0, none⟩) :: (k1.map u8v ++ List.replicate 16 (u8v 0))) := hBk4; have hrk : Rd w4 (some ⟨w1.heap.size, 1, none⟩) (k1.map u8v) := (by have := (hk4.rdAt 1).head 16; simpa [hL1] using this); clear hBk4
    | (refine wpList_load_arr (R60) rfl _ rfl (w1.heap.size) (1) rfl (k1.map u8v) (hrk) ((by simpa using hL1)) ?_)
    | fail)
  have hz4 := hz3.turn hM4 (by omega)
  have hB4 := hB3.turn hM4 (by omega)
  have hxw4 : Ext w w4 := Below.trans hxw3 (hM4.below (by omega) hxw3.size)
  clear hz3 hB3 hM4 hrk
  refine (twice_any k1 hL1 _).mono ?_
  rintro e w5 ⟨rfl, hx5⟩
  rw [← HS2.out]
  have hk5 := hk4.extB hx5
  have hz5 := hz4.extB hx5
  have hB5 := hB4.extB hx5
  have hxw5 := hxw4.trans hx5
  clear hk4 hz4 hB4 hBk3
  have hkcl : (kc g k1 k2).length = 33 := by simp [kc, hL1, hL2]
  have hE6 : ((.pointer (some ⟨g, 0, none⟩) :: (k1.map u8v ++ List.replicate 16 (u8v 0))).take 17 ++ k2.map u8v ++ (.pointer (some ⟨g, 0, none⟩) :: (k1.map u8v ++ List.replicate 16 (u8v 0))).drop (17 + 16)) = kc g k1 k2 := by
    have h1 : (k1.map u8v).length = 16 := by simpa using hL1
    have h2 : (k1.map u8v ++ List.replicate 16 (u8v 0)).take 16 = k1.map u8v := by rw [List.take_append_of_le_length (by omega), List.take_of_length_le (by omega)]
    simp only [List.take_succ_cons, List.drop_succ_cons, h2]
    rw [List.drop_of_length_le (by simp; omega)]
    simp [kc]
  have hkc1 : ∀ u ∈ kc g k1 k2, u.oneCell' = true := by
    intro u hu
    rcases List.mem_cons.1 hu with rfl | hu
    · rfl
    · exact one_u8 _ u hu
  go_wp2_with (first
    | (refine wpList_store_arr R60 rfl _ _ rfl w1.heap.size 17 rfl (k2.map u8v) rfl 101 _ hk5 (by simpa using hL2) (by simp [hL1]) (one_u8 _) ?_; intro w6 hBk6 hM6); have hk6 : Blk w6 w1.heap.size 101 (kc g k1 k2) := (by rw [← hE6]; exact hBk6); have hz6 := hz5.turn hM6 (by omega); clear hBk6
    | (refine wpList_load_arr (R71) rfl _ rfl (w1.heap.size) (0) rfl (kc g k1 k2) (hk6.rd) (hkcl) ?_)
    | (refine wpList_store_arr R71 rfl _ _ rfl w.heap.size 0 rfl (kc g k1 k2) rfl 101 _ hz6 hkcl (by omega) hkc1 ?_; intro w7 hz7 hM7)
    | fail)
  have hzf : Blk w7 w.heap.size 101 (kc g k1 k2) := by
    have e : zs.take 0 ++ kc g k1 k2 ++ zs.drop (0 + 33) = kc g k1 k2 := by simp [hzl]
    rwa [e] at hz7
  refine bodyPost_ret (results_arr_tmp Try.results64 (R71) _ _ (w.heap.size) (0) (kc g k1 k2) rfl (hzf.rd) (hkcl) (.int .i64 0) rfl) rfl ?_
  have hxw6 : Ext w w6 := Below.trans hxw5 (hM6.below (by omega) hxw5.size)
  exact ⟨g, rfl, by omega, (hB5.turn hM6 (by omega)).turn hM7 (by omega), Below.trans hxw6 (hM7.below (Nat.le_refl _) hxw6.size)⟩
end Go.Proofs.Ytdmifbfgeeldnaa

/- The walks of layer 5, part two: CMAC. -/
namespace Go.Proofs.Ytdmifbfgeeldnaa
open Go.RowKit Go.Sec Go.Oct Go.Aes BigFrame

theorem fill_set (l : List UInt8) (n : Nat) (hl : l.length = n) (hn : n < 16) : (l ++ List.replicate (16 - n) 0).set n 128 = fill l := by
  subst hl
  unfold fill
  obtain ⟨j, hj⟩ : ∃ j, 16 - l.length = j + 1 := ⟨15 - l.length, by omega⟩
  rw [hj, show 15 - l.length = j by omega, List.set_append_right _ _ (Nat.le_refl _), Nat.sub_self, List.replicate_succ, List.set_cons_zero, List.append_assoc]
  rfl
theorem copied16 {l : List UInt8} {n : Nat} (hl : l.length = n) : (List.replicate 16 (u8v 0)).take 0 ++ (l.take n).map u8v ++ (List.replicate 16 (u8v 0)).drop (0 + n) = (l ++ List.replicate (16 - n) 0).map u8v := by
  subst hl
  have h1 : l.take l.length = l := List.take_of_length_le (Nat.le_refl _)
  rw [h1, List.map_append, List.map_replicate, List.drop_replicate, Nat.zero_add, List.take_zero, List.nil_append]
set_option maxRecDepth 100000 in
set_option maxHeartbeats 2000000 in
theorem filled_any (a : Option Addr) (n c : Nat) (l : List UInt8) (w : World) (h : Sl w a n l) (hn : n < 16) :
    Calls Try.prog 73 #[.slice a n c] w fun e w' => e = .returned (.agg ((fill l).map u8v).toArray) ∧ Ext w w' := by
  have hl := h.len
  go_enter Try.func73, Try.ntmps73
  go_wp2_with (first
    | (refine wpList_copy_blk rfl (.tmp 4) (.tmp 5) _ _ rfl 5 Try.underlying25 (by kernel_rfl) (w.heap.size + 1) (0) _ _ _ _ _ (l) rfl rfl (99) _ ((Blk.newAt _ _ _ _ (by simp))) ((h.ext (by repeat (first | (with_reducible first | exact Ext.refl _ | assumption | apply Ext.alloc | apply Ext.ext | apply Ext.drew | refine Ext.setCell ?_ ?_ _) | (focus (simp [go_sem]; done)))))) (n) (by omega) ((by simp <;> omega)) ?_; intro w2 hB2 hM2); have hB3 : Blk w2 (w.heap.size + 1) 99 ((l ++ List.replicate (16 - n) 0).map u8v) := (copied16 hl) ▸ hB2; have hR2 : Blk w2 w.heap.size 99 (List.replicate 16 (u8v 0)) := Blk.turn hM2 (Blk.alloc (Blk.newAt w _ _ _ rfl) _) (by omega); have hfn := hB3.free n; obtain ⟨vo, hvo⟩ : ∃ v, w2.cell? ⟨w.heap.size + 1, n, none⟩ = some v := ⟨_, hB3.cell n (by simp; omega)⟩; haveI := hB3.blt; have hB4 : Blk (w2.setCell ⟨w.heap.size + 1, n, none⟩ (u8v 128)) (w.heap.size + 1) 99 ((fill l).map u8v) := (by have := hB3.set n (u8v 128); rwa [← List.map_set, fill_set l n hl hn] at this)
    | (refine wpList_load_arr (R60) rfl _ rfl (w.heap.size + 1) (0) rfl ((fill l).map u8v) (hB4.rd) ((by simp [fill_length l (by omega)])) ?_)
    | (refine wpList_store_arr (R60) rfl _ _ rfl (w.heap.size) (0) rfl ((fill l).map u8v) rfl (99) _ ((hR2.other (by simp) _)) ((by simp [fill_length l (by omega)])) (by simp) (by first | exact one_u8 _ | (simp; done) | (simp; (repeat' (first | rfl | constructor)))) ?_; intro w3 hB5 hM5))
  have hB6 : Blk w3 w.heap.size 99 ((fill l).map u8v) := by simpa [fill_length l (by omega)] using hB5
  refine bodyPost_ret (results_arr Try.results73 (R60) _ _ (w.heap.size) (0) ((fill l).map u8v) rfl (hB6.rd) ((by simp [fill_length l (by omega)]))) rfl ?_
  have hx2 : Ext w w2 := Below.trans (b := (w.alloc _).alloc _) (by repeat (first | (with_reducible first | exact Ext.refl _ | assumption | apply Ext.alloc | apply Ext.ext | apply Ext.drew | refine Ext.setCell ?_ ?_ _) | (focus (simp [go_sem]; done)))) (hM2.below (by simp) (by simp; omega))
  have hx3 : Ext w (w2.setCell ⟨w.heap.size + 1, n, none⟩ (.int .u8 128)) := hx2.setCell (by simp) _
  exact ⟨rfl, Below.trans hx3 (hM5.below (Nat.le_refl _) hx3.size)⟩
end Go.Proofs.Ytdmifbfgeeldnaa

/- The walks of layer 5, part three: CMAC of bytes. -/
namespace Go.Proofs.Ytdmifbfgeeldnaa
open Go.RowKit Go.Sec Go.Oct Go.Aes BigFrame

set_option maxRecDepth 100000 in
set_option maxHeartbeats 4000000 in
theorem mac_any (g : Nat) (ks wh pt b : List UInt8) (a : Option Addr) (n cap : Nat) (w : World) (hC : Blk w g 117 (ks.map u8v)) (hks : ks.length = 176) (hwh : wh.length = 16) (hpt : pt.length = 16) (hb : Sl w a n b) (hnc : n ≤ cap) (hn : n ≤ 1000000) :
    Calls Try.prog 66 #[.agg (kc g wh pt).toArray, .slice a n cap] w fun e w' => e = .returned (.agg ((macW ks wh pt b).map u8v).toArray) ∧ Ext w w' := by
  have har2 := fun W a len cap => run_arrayAt (P := Try.prog) W 99 5 16 a len cap Try.underlying99
  obtain ⟨nb, hnb⟩ : ∃ nb, Hid (nb = (n - 1) / 16) := ⟨_, Lib.hid rfl⟩
  have hgl := hC.lt
  have hM := Lib.hid (show macW ks wh pt b = enc ks (xor16 (xor16 (cbc ks b nb) (last2 wh pt (b.drop (16 * nb))).1) (last2 wh pt (b.drop (16 * nb))).2) by unfold macW; rw [hb.len, ← hnb.out])
  have hkcl : (kc g wh pt).length = 33 := by simp [kc, hwh, hpt]
  go_enter Try.func66, Try.ntmps66
  go_wp2
  go_loopw [1, 6] (fun v1 _ wr => ∃ (k m : Nat) (ak : Option Addr) (ck : Nat), k ≤ nb ∧ Hid (m + 16 * k = n) ∧ v1 = .slice ak m ck ∧ m ≤ ck ∧ Sl w ak m (b.drop (16 * k)) ∧ Blk wr w.heap.size 101 (kc g wh pt) ∧ Blk wr (w.heap.size + 1) 99 (List.replicate 16 (u8v 0)) ∧ Blk wr (w.heap.size + 1 + 1) 99 ((cbc ks b k).map u8v) ∧ Blk wr g 117 (ks.map u8v) ∧ Ext w wr) (fun v1 _ _ => match v1 with | .slice _ m _ => m | _ => 0)
  case atStart =>
    exact ⟨0, n, a, cap, Nat.zero_le _, Lib.hid rfl, rfl, hnc, hb, (by repeat (first | assumption | (refine Blk.newAt _ _ _ _ ?_; first | rfl | (simp only [World.size_alloc]; done)) | apply Blk.ext | apply Blk.alloc | (refine Blk.other ?_ ?_ _; rotate_left; (simp <;> omega)))), (by repeat (first | assumption | (refine Blk.newAt _ _ _ _ ?_; first | rfl | (simp only [World.size_alloc]; done)) | apply Blk.ext | apply Blk.alloc | (refine Blk.other ?_ ?_ _; rotate_left; (simp <;> omega)))), (by repeat (first | assumption | (refine Blk.newAt _ _ _ _ ?_; first | rfl | (simp only [World.size_alloc]; done)) | apply Blk.ext | apply Blk.alloc | (refine Blk.other ?_ ?_ _; rotate_left; (simp <;> omega)))), (by repeat (first | assumption | (refine Blk.newAt _ _ _ _ ?_; first | rfl | (simp only [World.size_alloc]; done)) | apply Blk.ext | apply Blk.alloc | (refine Blk.other ?_ ?_ _; rotate_left; (simp <;> omega)))), (by repeat (first | (with_reducible first | exact Ext.refl _ | assumption | apply Ext.alloc | apply Ext.ext | apply Ext.drew | refine Ext.setCell ?_ ?_ _) | (focus (simp [go_sem]; done))))⟩
  case round =>
    obtain ⟨k, m, ak, ck, hk, hmk, rfl, hmc, hSl, hK, hR, hV, hCr, hx⟩ := hrel
    have hmk' := hmk.out
    have hnb' := hnb.out
    have hk0 := hK.cell? 0 rfl
    by_cases hlt : k < nb
    · have hm16 : (16 : Int) < (m : Int) := by omega
      have hm17 : 16 < m := by omega
      have hmI : (16 : Int) ≤ (ck : Int) := by omega
      have hm18 : 16 ≤ m := by omega
      obtain ⟨b0, o0, rfl, hb0, _⟩ := hSl.at 0 (by omega)
      have hC1 := Lib.hid (show cbc ks b (k + 1) = enc ks (xor16 (cbc ks b k) ((b.drop (16 * k)).take 16)) from rfl)
      have hcl := cbc_length ks b k
      have htl : ((b.drop (16 * k)).take 16).length = 16 := by rw [List.length_take, hSl.len]; omega
      have hrd := ((hSl.ext hx).take 16 (by omega)).by'
      generalize (b.drop (16 * k)).take 16 = x at *
      generalize cbc ks b k = v at *
      clear hmk' hnb'
      have hSd := hSl.drop ck 16 hmc
      rw [List.drop_drop] at hSd
      unfold sAdr at hSd
      rw [if_neg (by omega)] at hSd
      simp only [Option.map_some, Nat.mul_one, addr_add] at hSd
      go_wp2_with (first
        | (refine wpList_load_arr (R60) rfl _ rfl (b0) (o0) rfl (x.map u8v) (hrd) ((by simpa using htl)) ?_)
        | (refine wpList_alloc_store (R60) rfl rfl _ _ rfl rfl rfl rfl (by simp [Act.put]) (x.map u8v) rfl (by simp) ((by simpa using htl)) (one_u8 _) ?_; intro xx hBx _)
        | fail)
      have hxx : Ext w (wr.ext xx) := hx.ext xx
      have hs1 := hxx.size
      have hwb := hV.lt
      have hKx := hK.ext xx
      have hRx := hR.ext xx
      have hVx := hV.ext xx
      have hCx := hCr.ext xx
      generalize wr.ext xx = W at *
      refine (xor_any (w.heap.size + 1 + 1) 99 v x wr.heap.size 0 W hVx hcl htl hBx.rd (by omega)).mono ?_
      rintro e w2 ⟨rfl, hV2, hM2⟩
      have hK2 := hKx.turn hM2 (by omega)
      have hR2 := hRx.turn hM2 (by omega)
      have hC2 := hCx.turn hM2 (by omega)
      have hx2 : Ext w w2 := Below.trans hxx (hM2.below (by omega) hs1)
      have hk2 := hK2.cell? 0 rfl
      clear hKx hRx hVx hCx hBx hM2 hk0 hK hR hV hCr
      go_wp2_with fail
      refine (enc_any (w.heap.size + 1 + 1) g 0 99 _ ks w2 hV2 (by simp [xor16]) hks hC2.rd (by omega)).mono ?_
      rintro e w3 ⟨rfl, hV3, hM3⟩
      have hK3 := hK2.turn hM3 (by omega)
      have hR3 := hR2.turn hM3 (by omega)
      have hC3 := hC2.turn hM3 (by omega)
      have hx3 : Ext w w3 := Below.trans hx2 (hM3.below (by omega) hx2.size)
      clear hK2 hR2 hC2 hk2 hM3
      go_wp2
      go_roundw
      case rel =>
        refine ⟨k + 1, m - 16, some ⟨b0, o0 + 16, none⟩, ck - 16, by omega, Lib.hid (by have := hmk.out; omega), rfl, by omega, ?_, hK3, hR3, ?_, hC3, hx3⟩
        · rw [show 16 * (k + 1) = 16 * k + 16 by omega]; exact hSd
        · rw [hC1.out]; exact hV3
      case measure => show m - 16 < m; omega
    · obtain rfl : k = nb := by omega
      have hm16 : ¬ (16 : Int) < (m : Int) := by omega
      have hmle : m ≤ 16 := by omega
      have hcl := cbc_length ks b k
      have hr := hSl.len
      generalize cbc ks b k = v at *
      generalize b.drop (16 * k) = r at *
      clear hmk' hnb' hmk hnb hlt hk
      have hKr : Rd wr (some ⟨w.heap.size, 1, none⟩) (wh.map u8v) := by
        have := (hK.rdAt 1).head 16
        simpa [kc, hwh] using this
      have hKp : Rd wr (some ⟨w.heap.size, 17, none⟩) (pt.map u8v) := by
        have := hK.rdAt 17
        have e : (kc g wh pt).drop 17 = pt.map u8v := by
          unfold kc
          rw [List.drop_succ_cons, List.map_append, List.drop_append_of_le_length (by simp [hwh]), List.drop_of_length_le (by simp [hwh])]
          rfl
        rwa [e] at this
      go_wp2
      refine R2.wp_region_vague 6 [[], [], [1], [], [], [0, 3, 4], [0, 1, 2, 3, 4, 5]] (by kernel_rfl) (by kernel_rfl) (by kernel_rfl) (by kernel_rfl) ?_; simp only [List.take_succ_cons, List.take_zero, List.drop_succ_cons, List.drop_zero, List.take_nil, List.drop_nil]
      (repeat (apply R2.VD_der; (case h => (intro us w' hx hf; obtain ⟨x, rfl⟩ := hx.out; refine ⟨rfl, ?_⟩; simp [go_sem, execOp, *]; (try simp (disch := omega) only [Go.IntWalk.i64_in, Go.IntWalk.rem_in, Go.IntWalk.wrap64_in]); rfl)); (try simp only [Act.put, List.setIfInBounds_toArray, List.set_cons_succ, List.set_cons_zero])))
      (refine R2.VD_load_arr (R60) _ rfl (fun _ => rfl) (w.heap.size) (1) (fun _ => by simp [go_sem]) (wh.map u8v) (hKr) ((by simpa using hwh)) ?_)
      (refine R2.VD_alloc _ (List.replicate 16 (u8v 0)) Try.zeroValue99 rfl rfl rfl ?_)
      (refine R2.VD_alloc _ (List.replicate 16 (u8v 0)) Try.zeroValue99 rfl rfl rfl ?_)
      (refine R2.VD_store_self R60 rfl _ _ rfl ((List.replicate 16 (0 : UInt8)).map u8v) rfl (one_u8 _) (fun us w' hx hf => ⟨rfl, ?_⟩) ?_; (have h3 := hf _ (List.mem_append_left _ (List.mem_append_right _ (List.mem_singleton_self _))) rfl; obtain ⟨g7, e7, _, hB7⟩ := h3; exact ⟨g7, _, (by show Value.pointer (us _ 0).1 = _; rw [e7]), hB7⟩))
      (refine R2.VD_nil ?_; intro us w' hx hf hd; obtain ⟨x, rfl⟩ := hx.out; (try simp only [Act.put, List.setIfInBounds_toArray, List.set_cons_succ, List.set_cons_zero, wpList_none]); (try simp only [List.mem_cons, List.not_mem_nil, or_false, forall_eq_or_imp, forall_eq, List.nil_append, List.cons_append, List.mem_append, false_or, true_and, and_true] at hf); (try simp only [Nat.reduceAdd, Nat.zero_add] at hf); (try simp only [Nat.reduceAdd, Nat.zero_add]))
      obtain ⟨⟨g7, e7, h7, hB7⟩, g8, e8, h8, hB8⟩ := hf
      have hne : g7 ≠ g8 := by
        have := hd 3 (by simp) 4 (by simp) (by decide)
        rw [e7, e8] at this
        intro e
        exact this (by rw [e])
      clear hd
      rw [e7, e8]
      clear e7 e8 hx
      have hxW := hx.ext x
      have hs0 := hx.size
      have hl0 := hV.lt
      have hC4 := hCr.ext x
      have hK4 := hK.ext x
      have hR4 := hR.ext x
      have hV4 := hV.ext x
      generalize wr.ext x = W at *
      refine wpList_store_arr R60 rfl _ _ rfl g8 0 rfl (wh.map u8v) rfl 99 _ hB8 (by simpa using hwh) (by simp) (one_u8 _) ?_
      intro w4 hB4 hM4
      have hBw : Blk w4 g8 99 (wh.map u8v) := by simpa using hB4
      have hB7' := hB7.turn hM4 hne
      have hC5 := hC4.turn hM4 (by omega)
      have hK5 := hK4.turn hM4 (by omega)
      have hR5 := hR4.turn hM4 (by omega)
      have hV5 := hV4.turn hM4 (by omega)
      have hxw4 : Ext w w4 := Below.trans hxW (hM4.below (by omega) hxW.size)
      have hs4 := hxw4.size
      have hl5 := hV5.lt
      clear hB7 hC4 hK4 hR4 hV4 hB4 hM4 hB8 hCr hK hR hV hKr hKp hxW
      have hk0 := hK5.cell? 0 rfl
      have hKp : Rd w4 (some ⟨w.heap.size, 17, none⟩) (pt.map u8v) := by
        have := hK5.rdAt 17
        have e : (kc g wh pt).drop 17 = pt.map u8v := by
          unfold kc
          rw [List.drop_succ_cons, List.map_append, List.drop_append_of_le_length (by simp [hwh]), List.drop_of_length_le (by simp [hwh])]
          rfl
        rwa [e] at this
      by_cases h16 : m = 16
      case' pos =>
        subst h16
        have HL := Lib.hid (show last2 wh pt r = (r, wh) by unfold last2; rw [if_pos hr])
        have hsl : wh.length = 16 := hwh
        have hql : r.length = 16 := hr
        obtain ⟨b0, o0, rfl, hb0, _⟩ := hSl.at 0 (by omega)
        have hrr := (hSl.ext hxw4).by'
        go_wp2_with (first
          | (refine wpList_load_arr (R60) rfl _ rfl (b0) (o0) rfl (r.map u8v) (hrr) ((by simpa using hr)) ?_)
          | (refine wpList_store_arr (R60) rfl _ _ rfl (g7) (0) rfl (r.map u8v) rfl (99) _ (hB7') ((by simpa using hr)) (by simp) (by first | exact one_u8 _ | (simp; done) | (simp; (repeat' (first | rfl | constructor)))) ?_; intro w5 hB5 hM5)
          | fail)
        have hq : Blk w5 g7 99 (r.map u8v) := by simpa [hr] using hB5
        have hsb := hBw.turn hM5 (Ne.symm hne)
        have hC6 := hC5.turn hM5 (by omega)
        have hK6 := hK5.turn hM5 (by omega)
        have hR6 := hR5.turn hM5 (by omega)
        have hV6 := hV5.turn hM5 (by omega)
        have hxw6 : Ext w w5 := Below.trans hxw4 (hM5.below (by omega) hxw4.size)
      case' neg =>
        have hm15 : m < 16 := by omega
        have HL := Lib.hid (show last2 wh pt r = (fill r, pt) by unfold last2; rw [if_neg (by omega)])
        have hmI : ((m : Int) == 16) = false := by rw [beq_eq_false_iff_ne]; omega
        have hsl : pt.length = 16 := hpt
        have hql : (fill r).length = 16 := fill_length r (by omega)
        go_wp2
        refine R4.wp_region_vague 5 [[], [0], [], [2], [0, 1], [0, 1, 2, 3, 4]] ([g7]) (by kernel_rfl) (by kernel_rfl) (by kernel_rfl) (by kernel_rfl) ?_; simp only [List.take_succ_cons, List.take_zero, List.drop_succ_cons, List.drop_zero, List.take_nil, List.drop_nil]
        (repeat (apply R4.VD_der; (case h => (intro us w' hx hf; refine ⟨rfl, ?_⟩; simp [go_sem, execOp, *]; (try simp (disch := omega) only [Go.IntWalk.i64_in, Go.IntWalk.rem_in, Go.IntWalk.wrap64_in]); rfl)); (try simp only [Act.put, List.setIfInBounds_toArray, List.set_cons_succ, List.set_cons_zero])))
        (refine R4.VD_vag (fun _ => .agg ((fill r).map u8v).toArray) (fun _ _ => True) ⟨(fun _ h => by cases h), fun _ _ _ _ _ => trivial⟩ (fun us w' hx hf => ⟨rfl, ?_⟩) ?_; (unfold gives; simp [go_sem, execOp]; refine (filled_any ak m ck r _ (hSl.ext (Below.trans hxw4 (hx.mut.below (by omega) hxw4.size))) hm15).mono ?_; rintro e w1 ⟨rfl, hx1⟩; first | exact ⟨rfl, hx1⟩ | simpa using hx1))
        (repeat (apply R4.VD_der; (case h => (intro us w' hx hf; refine ⟨rfl, ?_⟩; simp [go_sem, execOp, *]; (try simp (disch := omega) only [Go.IntWalk.i64_in, Go.IntWalk.rem_in, Go.IntWalk.wrap64_in]); rfl)); (try simp only [Act.put, List.setIfInBounds_toArray, List.set_cons_succ, List.set_cons_zero])))
        (refine R4.VD_load_arr R60 (.tmp 32) rfl rfl w.heap.size 17 (by simp; omega) (fun _ => rfl) (pt.map u8v) hKp (by simpa using hpt) ?_)
        (refine R4.VD_store R60 rfl _ _ rfl rfl g7 0 (by simp) (by simp) 99 _ hB7' (by simp) (fun _ => (fill r).map u8v) (fun _ => ⟨by simpa using hql, one_u8 _⟩) (fun _ _ => True) (fun _ _ _ h _ => h) (fun us w' hx hf => ⟨rfl, fun _ => (none, 0), rfl, trivial⟩) ?_)
        (refine R4.VD_nil ?_; intro us w' hx hf hd; (try simp only [Act.put, List.setIfInBounds_toArray, List.set_cons_succ, List.set_cons_zero, wpList_none]); (try simp only [List.mem_cons, List.not_mem_nil, or_false, forall_eq_or_imp, forall_eq, List.nil_append, List.cons_append, List.mem_append, false_or, true_and, and_true] at hf); (try simp only [Nat.reduceAdd, Nat.zero_add] at hf); (try simp only [Nat.reduceAdd, Nat.zero_add]))
        clear hd
        have hM5 := hx.mut
        have hq1 : Blk w' g7 99 ((fill r).map u8v) := by simpa using hf
        have hsb1 := hBw.turn hM5 (Ne.symm hne)
        have hC51 := hC5.turn hM5 (by omega)
        have hK51 := hK5.turn hM5 (by omega)
        have hR51 := hR5.turn hM5 (by omega)
        have hV51 := hV5.turn hM5 (by omega)
        have hxw5 : Ext w w' := Below.trans hxw4 (hM5.below (by omega) hxw4.size)
        have hs5 := hxw5.size
        clear hf hx hM5 hC5 hK5 hR5 hV5 hBw hB7' hk0 hKp hxw4
        refine wpList_store_arr R60 rfl _ _ rfl g8 0 rfl (pt.map u8v) rfl 99 _ hsb1 (by simpa using hpt) (by simp [hwh]) (one_u8 _) ?_
        intro w5 hB5 hM6
        have hsb : Blk w5 g8 99 (pt.map u8v) := by
          have e : (wh.map u8v).drop 16 = [] := List.drop_of_length_le (by simp [hwh])
          rw [Nat.zero_add, e] at hB5
          simpa using hB5
        have hq := hq1.turn hM6 hne
        have hC6 := hC51.turn hM6 (by omega)
        have hK6 := hK51.turn hM6 (by omega)
        have hR6 := hR51.turn hM6 (by omega)
        have hV6 := hV51.turn hM6 (by omega)
        have hxw6 : Ext w w5 := Below.trans hxw5 (hM6.below (by omega) hxw5.size)
        clear hq1 hsb1 hC51 hK51 hR51 hV51 hB5 hM6
        go_wp2_with fail
      all_goals
        have hs6 := hxw6.size
        have hk6 := hK6.cell? 0 rfl
        refine (xor_any (w.heap.size + 1 + 1) 99 v _ g7 0 w5 hV6 hcl hql hq.rd (by omega)).mono ?_
        rintro e w6 ⟨rfl, hV7, hM7⟩
        have hs7 := hsb.turn hM7 (by omega)
        have hC7 := hC6.turn hM7 (by omega)
        have hK7 := hK6.turn hM7 (by omega)
        have hR7 := hR6.turn hM7 (by omega)
        have hxw7 : Ext w w6 := Below.trans hxw6 (hM7.below (by omega) hxw6.size)
        clear hM7 hq hsb hC6 hK6 hR6 hV6 hk6
        go_wp2_with fail
        refine (xor_any (w.heap.size + 1 + 1) 99 _ _ g8 0 w6 hV7 (by simp [xor16]) hsl hs7.rd (by omega)).mono ?_
        rintro e w7 ⟨rfl, hV8, hM8⟩
        have hC8 := hC7.turn hM8 (by omega)
        have hK8 := hK7.turn hM8 (by omega)
        have hR8 := hR7.turn hM8 (by omega)
        have hxw8 : Ext w w7 := Below.trans hxw7 (hM8.below (by omega) hxw7.size)
        have hk8 := hK8.cell? 0 rfl
        clear hM8 hs7 hC7 hK7 hR7 hV7
        go_wp2_with fail
        refine (enc_any (w.heap.size + 1 + 1) g 0 99 _ ks w7 hV8 (by simp [xor16]) hks hC8.rd (by omega)).mono ?_
        rintro e w8 ⟨rfl, hV9, hM9⟩
        have hR9 := hR8.turn hM9 (by omega)
        have hxw9 : Ext w w8 := Below.trans hxw8 (hM9.below (by omega) hxw8.size)
        clear hM9 hC8 hK8 hR8 hV8 hk8
        rw [HL.out] at hM
        rw [← hM.out] at hV9
        have hml := macW_length ks wh pt b
        go_wp2_with (first
          | (refine wpList_load_arr (R60) rfl _ rfl (w.heap.size + 1 + 1) (0) rfl ((macW ks wh pt b).map u8v) (hV9.rd) ((by simpa using hml)) ?_)
          | (refine wpList_store_arr (R60) rfl _ _ rfl (w.heap.size + 1) (0) rfl ((macW ks wh pt b).map u8v) rfl (99) _ (hR9) ((by simpa using hml)) (by simp) (by first | exact one_u8 _ | (simp; done) | (simp; (repeat' (first | rfl | constructor)))) ?_; intro w9 hB9 hM10))
        have hR10 : Blk w9 (w.heap.size + 1) 99 ((macW ks wh pt b).map u8v) := by simpa using hB9
        refine bodyPost_ret (results_arr Try.results66 (R60) _ _ (w.heap.size + 1) (0) ((macW ks wh pt b).map u8v) rfl (hR10.rd) ((by simpa using hml))) rfl ?_
        exact ⟨rfl, Below.trans hxw9 (hM10.below (by omega) hxw9.size)⟩
end Go.Proofs.Ytdmifbfgeeldnaa

/- The walks of layer 5, part four: Cmac, Subkeys, the sanity check. -/
namespace Go.Proofs.Ytdmifbfgeeldnaa
open Go.RowKit Go.Sec Go.Oct Go.Aes BigFrame

theorem kc_length (g : Nat) (k1 k2 : List UInt8) (h1 : k1.length = 16) (h2 : k2.length = 16) : (kc g k1 k2).length = 33 := by simp [kc, h1, h2]
theorem kc_one (g : Nat) (k1 k2 : List UInt8) : ∀ u ∈ kc g k1 k2, u.oneCell' = true := by
  intro u hu
  rcases List.mem_cons.1 hu with rfl | hu
  · rfl
  · exact one_u8 _ u hu

def s_ck : List UInt8 := [50, 98, 55, 101, 49, 53, 49, 54, 50, 56, 97, 101, 100, 50, 97, 54, 97, 98, 102, 55, 49, 53, 56, 56, 48, 57, 99, 102, 52, 102, 51, 99]
def b_ck : List UInt8 := [43, 126, 21, 22, 40, 174, 210, 166, 171, 247, 21, 136, 9, 207, 79, 60]
theorem un_ck : unhexTo hexV s_ck s_ck.length = b_ck := by decide +kernel
theorem hv_ck : ∀ k, (h : k < s_ck.length) → 0 ≤ Lib.indexByte digits s_ck[k] := by decide +kernel
def s_cm : List UInt8 := [54, 98, 99, 49, 98, 101, 101, 50, 50, 101, 52, 48, 57, 102, 57, 54, 101, 57, 51, 100, 55, 101, 49, 49, 55, 51, 57, 51, 49, 55, 50, 97]
def b_cm : List UInt8 := [107, 193, 190, 226, 46, 64, 159, 150, 233, 61, 126, 17, 115, 147, 23, 42]
theorem un_cm : unhexTo hexV s_cm s_cm.length = b_cm := by decide +kernel
theorem hv_cm : ∀ k, (h : k < s_cm.length) → 0 ≤ Lib.indexByte digits s_cm[k] := by decide +kernel
def s_co1 : List UInt8 := [98, 98, 49, 100, 54, 57, 50, 57, 101, 57, 53, 57, 51, 55, 50, 56, 55, 102, 97, 51, 55, 100, 49, 50, 57, 98, 55, 53, 54, 55, 52, 54]
def b_co1 : List UInt8 := [187, 29, 105, 41, 233, 89, 55, 40, 127, 163, 125, 18, 155, 117, 103, 70]
theorem hx_co1 : hexL b_co1 = s_co1 := by decide +kernel
def s_co2 : List UInt8 := [48, 55, 48, 97, 49, 54, 98, 52, 54, 98, 52, 100, 52, 49, 52, 52, 102, 55, 57, 98, 100, 100, 57, 100, 100, 48, 52, 97, 50, 56, 55, 99]
def b_co2 : List UInt8 := [7, 10, 22, 180, 107, 77, 65, 68, 247, 155, 221, 157, 208, 74, 40, 124]
theorem hx_co2 : hexL b_co2 = s_co2 := by decide +kernel
theorem kc1 : cmac b_ck [] = b_co1 := by decide +kernel
theorem kc2 : cmac b_ck b_cm = b_co2 := by decide +kernel

end Go.Proofs.Ytdmifbfgeeldnaa

/- The laws of layer 5 that need no document: CmacOneBlock. -/
namespace Go.Proofs.Ytdmifbfgeeldnaa
open Go.RowKit Go.Sec Go.Oct Go.Aes Go.Sha BigFrame

end Go.Proofs.Ytdmifbfgeeldnaa

/- The document's layer 5: Xor; Subkeys of the program. -/
namespace Go.Proofs.Ytdmifbfgeeldnaa
open Go.RowKit Go.Sec Go.Oct Go.Aes Go.Sha BigFrame

def xorL (a b : List UInt8) : List UInt8 := (List.range a.length).map (xorF a b)
theorem xorL_length (a b : List UInt8) : (xorL a b).length = a.length := by simp [xorL]
theorem xorL16 (a b : List UInt8) (h : a.length = 16) : xorL a b = xor16 a b := by unfold xorL xor16; rw [h]
theorem upTo_end (a b : List UInt8) (k : Nat) (hk : k ≤ a.length) (hb : k = a.length ∨ b.length ≤ k) : upTo (xorF a b) a k = xorL a b := by
  apply List.ext_getElem
  · rw [upTo_length _ _ _ hk, xorL_length]
  · intro i h1 h2
    rw [xorL_length] at h2
    have e : (xorL a b)[i]? = some (xorF a b i) := by simp [xorL, h2]
    have e2 : (upTo (xorF a b) a k)[i]? = some (xorF a b i) := by
      by_cases hik : i < k
      · unfold upTo
        rw [List.getElem?_append_left (by simpa using hik)]
        simp [hik]
      · rw [upTo_get _ _ _ _ (by omega) h2]
        have : at' b i = 0 := by
          have : b.length ≤ i := by omega
          simp [at', this]
        unfold xorF
        rw [this, at_get _ _ h2]
        simp
    rw [List.getElem?_eq_getElem h1] at e2
    rw [List.getElem?_eq_getElem (by rw [xorL_length]; exact h2)] at e
    injection e with e
    injection e2 with e2
    rw [e, e2]

end Go.Proofs.Ytdmifbfgeeldnaa

/- The document's layer 5: Double. -/
namespace Go.Proofs.Ytdmifbfgeeldnaa
open Go.RowKit Go.Sec Go.Oct Go.Aes Go.Sha BigFrame

theorem make16 (w : World) : (Instr.makeSlice 25 (.int .i64 16) (.int .i64 16)).run Try.prog w = .ok (.slice (some ⟨w.heap.size, 0, none⟩) 16 16) (w.alloc (.cells (zerosOf (.int .u8 0) 16) 5)) :=
  run_make_by U 16 16 (by omega) (by omega) w
theorem zeros16 (w : World) : Sl (w.alloc (.cells (zerosOf (.int .u8 0) 16) 5)) (some ⟨w.heap.size, 0, none⟩) 16 zero16 := (blk_zeros8 w 16).sl rfl
theorem twG_last (l : List UInt8) (h : l.length = 16) : twG l 15 = at' l 15 <<< 1 := by
  unfold twG
  have : at' l 16 = 0 := by simp [at', h]
  rw [show 15 + 1 = 16 from rfl, this]; simp
theorem hi_cases (x : UInt8) : x >>> 7 = 0 ∨ x >>> 7 = 1 := by
  have := all8 (fun x => decide (x >>> 7 = 0 ∨ x >>> 7 = 1)) (by decide +kernel) x
  simpa using this
theorem tw_hi (l : List UInt8) (h : at' l 0 >>> 7 = 1) : ((List.range 16).map (twG l)).set 15 (twG l 15 ^^^ 135) = tw l := by
  rw [← tw_eq l, h]; rfl
theorem tw_lo (l : List UInt8) (h : at' l 0 >>> 7 = 0) : (List.range 16).map (twG l) = tw l := by
  rw [← tw_eq l, h]
  apply List.ext_getElem
  · simp
  · intro i h1 h2
    rw [List.getElem_set]
    split
    · rename_i e; subst e; simp
    · simp

theorem own_blk {w : World} {g base n : Nat} {l : List UInt8} (h : Blk w g 5 (l.map u8v)) (hn : l.length = n) (hb : base ≤ g) (hm : n ≤ 1000000000) : Own w base (some ⟨g, 0, none⟩) n n l := by
  subst hn; exact Own.of_blk h hb (by simp only [maxLen]; omega)

end Go.Proofs.Ytdmifbfgeeldnaa

/- The walks of the reference's prepared key: Prepare. -/
namespace Go.Proofs.Ytdmifbfgeeldnaa
open Go.RowKit Go.Sec Go.Oct Go.Aes BigFrame

theorem conv8 (k : Nat) (h : k < 256) : (Value.int .u8 (k : Int)) = .int .u8 (n8 (UInt8.ofNat k)) := by rw [lit8 k h]

end Go.Proofs.Ytdmifbfgeeldnaa

/- The walks of the reference's prepared key: Encrypt. -/
namespace Go.Proofs.Ytdmifbfgeeldnaa
open Go.RowKit Go.Sec Go.Oct Go.Aes BigFrame

theorem R59 : RowT Try.prog 98 16 := ⟨⟨_, Try.underlying98, rfl⟩, by kernel_rfl, ⟨_, Try.zeroValue98, rfl⟩⟩

end Go.Proofs.Ytdmifbfgeeldnaa

/- The document's layer 5: the mac of a prepared key. -/
namespace Go.Aes
theorem xor16_assoc (a b c : List UInt8) : xor16 (xor16 a b) c = xor16 a (xor16 b c) := by
  unfold xor16
  apply List.map_congr_left
  intro i hi
  have hi := List.mem_range.1 hi
  unfold xorF
  rw [at_map16 _ _ hi, at_map16 _ _ hi, UInt8.xor_assoc]
/-- What the document's mac does with the last block. -/
def endR (ks r : List UInt8) : List UInt8 := if r.length = 16 then xor16 r (sub1 ks) else xor16 (fill r) (sub2 ks)
theorem mac_ref (ks b : List UInt8) : mac ks b = enc ks (xor16 (cbc ks b ((b.length - 1) / 16)) (endR ks (b.drop (16 * ((b.length - 1) / 16))))) := by
  unfold mac macW
  simp only
  rw [xor16_assoc]
  unfold endR last2
  split <;> rfl
end Go.Aes
namespace Go.Proofs.Ytdmifbfgeeldnaa
open Go.RowKit Go.Sec Go.Oct Go.Aes Go.Sha BigFrame

end Go.Proofs.Ytdmifbfgeeldnaa

/- CmacDoubles: Subkeys, and the law's walk. -/
namespace Go.Proofs.Ytdmifbfgeeldnaa
open Go.RowKit Go.Sec Go.Oct Go.Aes Go.Sha BigFrame

theorem kc_rd1 {w : World} {g c : Nat} {T : TypeId} {k1 k2 : List UInt8} (h1 : k1.length = 16) (hB : Blk w g T (kc c k1 k2)) : Sl w (some ⟨g, 1, none⟩) 16 k1 := by
  refine ⟨h1, ?_⟩
  have := (hB.rdAt 1).head 16
  simpa [kc, h1] using this
theorem kc_rd2 {w : World} {g c : Nat} {T : TypeId} {k1 k2 : List UInt8} (h1 : k1.length = 16) (h2 : k2.length = 16) (hB : Blk w g T (kc c k1 k2)) : Sl w (some ⟨g, 17, none⟩) 16 k2 := by
  refine ⟨h2, ?_⟩
  have := hB.rdAt 17
  have e : (kc c k1 k2).drop 17 = k2.map u8v := by
    unfold kc
    rw [List.drop_succ_cons, List.map_append, List.drop_append_of_le_length (by simp [h1]), List.drop_of_length_le (by simp [h1])]
    rfl
  rwa [e] at this

theorem mk16 (W : World) : (Instr.makeSlice 25 (.int .i64 16) (.int .i64 16)).run Try.prog W = .ok (.slice (some ⟨W.heap.size, 0, none⟩) 16 16) (W.alloc (.cells (zerosOf (.int .u8 0) 16) 5)) := run_make_by U 16 16 (Nat.le_refl _) (by omega) W
theorem mk16_sl (W : World) : Sl (W.alloc (.cells (zerosOf (.int .u8 0) 16) 5)) (some ⟨W.heap.size, 0, none⟩) 16 zero16 := (blk_zeros8 W 16).sl rfl
end Go.Proofs.Ytdmifbfgeeldnaa

/- The walks of the program's SHA-256: all blocks, the end, the whole. -/
namespace Go.Sec
open Go.RowKit Go.Sha Go.Oct
/-- Bytes stay as they are where a block of other things turns. -/
theorem Sl.mut {w w' : World} {g n : Nat} {a : Option Addr} {l : List UInt8} {t : TypeId} {vs : List Value} (h : Sl w a n l) (hB : Blk w g t vs) (hv : ∀ v ∈ vs, ∀ x, v ≠ .int .u8 x) (hM : Mut g w w') : Sl w' a n l := by
  refine ⟨h.len, ?_⟩
  rcases h.by' with h0 | ⟨b, off, rfl, hb, hc⟩
  · exact .inl h0
  · by_cases hl : l.map u8v = []
    · exact .inl hl
    · refine Rd.turn hM (.inr ⟨b, off, rfl, hb, hc⟩) (fun e => ?_)
      subst e
      obtain ⟨v, hv0⟩ : ∃ v, (l.map u8v)[0]? = some v := by
        cases hm : l.map u8v with
        | nil => exact absurd hm hl
        | cons v r => exact ⟨v, rfl⟩
      have h2 := hc 0 v hv0
      rw [cell_of_row w _ _ _ t (0, 0) hB] at h2
      have hm := List.mem_of_getElem? (show vs[off + 0]? = some v by simpa using h2)
      obtain ⟨x, _, rfl⟩ := List.mem_map.1 (List.mem_of_getElem? hv0)
      exact hv _ hm _ rfl
theorem no_u8 (l : List UInt32) : ∀ v ∈ l.map u32v, ∀ x, v ≠ .int .u8 x := by
  intro v hv x e
  obtain ⟨y, _, rfl⟩ := List.mem_map.1 hv
  cases e
theorem sl_new4 (w : World) (x y z u : UInt8) (t : TypeId) : Sl (w.alloc (.cells #[.int .u8 (n8 x), .int .u8 (n8 y), .int .u8 (n8 z), .int .u8 (n8 u)] t)) (some ⟨w.heap.size, 0, none⟩) 4 [x, y, z, u] := ⟨rfl, (Blk.new w #[.int .u8 (n8 x), .int .u8 (n8 y), .int .u8 (n8 z), .int .u8 (n8 u)] t).rd⟩
@[go_sem] theorem wrap8_n32 (x : UInt32) : IntKind.u8.wrap (n32 x) = n8 x.toUInt8 := by
  unfold n8 n32; rw [IntKind.wrap_u8, UInt32.toNat_toUInt8]; omega
theorem fin_tail (rest p : List UInt8) (nr OF : Nat) (hrl : rest.length = nr) (h1 : nr + 1 ≤ OF) (h2 : OF + 8 ≤ 128) (hp : p.length = 8) :
    ((rest ++ [128] ++ List.replicate (127 - nr) 0).map u8v).take OF ++ (p.take 8).map u8v ++ ((rest ++ [128] ++ List.replicate (127 - nr) 0).map u8v).drop (OF + 8) = ((rest ++ [128] ++ List.replicate (OF - 1 - nr) 0 ++ p) ++ List.replicate (120 - OF) 0).map u8v := by
  have hl : (rest ++ [128]).length = nr + 1 := by simp [hrl]
  rw [← List.map_take, ← List.map_drop, ← List.map_append, ← List.map_append, List.take_of_length_le (l := p) (by omega)]
  rw [List.take_append, List.drop_append, hl, List.take_of_length_le (l := rest ++ [128]) (by omega), List.drop_of_length_le (l := rest ++ [128]) (by omega), List.take_replicate, List.drop_replicate, List.nil_append, show min (OF - (nr + 1)) (127 - nr) = OF - 1 - nr by omega, show 127 - nr - (OF + 8 - (nr + 1)) = 120 - OF by omega]
theorem own_made (w : World) (c : Nat) (hc : c ≤ maxLen) : Own (w.alloc (.cells (zerosOf (.int .u8 0) c) 5)) w.heap.size (some ⟨w.heap.size, 0, none⟩) 0 c [] := by
  refine ⟨rfl, ?_⟩
  have := (blk_zeros8 w c).own (Nat.le_refl _) 0 (Nat.zero_le _) (by simpa using hc)
  simpa using this
end Go.Sec
namespace Go.Sha
open Go.Oct
theorem shr_u8 (x : UInt32) (k : Nat) (hk : k < 32) : (x >>> UInt32.ofNat k).toUInt8.toNat = x.toNat / 2 ^ k % 256 := by
  rw [UInt32.toNat_toUInt8, UInt32.toNat_shiftRight, UInt32.toNat_ofNat', Nat.mod_eq_of_lt (show k < 2 ^ 32 by omega), Nat.mod_eq_of_lt hk, Nat.shiftRight_eq_div_pow]
theorem shr8n (v : UInt64) : (v >>> 8).toNat = v.toNat / 256 := by
  rw [UInt64.toNat_shiftRight, Nat.shiftRight_eq_div_pow]; rfl
theorem put4_eq (x : UInt32) : putL 4 x.toUInt64 = [(x >>> 24).toUInt8, (x >>> 16).toUInt8, (x >>> 8).toUInt8, x.toUInt8] := by
  have e : putL 4 x.toUInt64 = [(x.toUInt64 >>> 8 >>> 8 >>> 8).toUInt8, (x.toUInt64 >>> 8 >>> 8).toUInt8, (x.toUInt64 >>> 8).toUInt8, x.toUInt64.toUInt8] := rfl
  rw [e]
  have h1 := shr_u8 x 24 (by omega)
  have h2 := shr_u8 x 16 (by omega)
  have h3 := shr_u8 x 8 (by omega)
  have e1 : (x.toUInt64 >>> 8 >>> 8 >>> 8).toUInt8 = (x >>> 24).toUInt8 := by
    apply UInt8.toNat_inj.1
    rw [show (x >>> 24 : UInt32) = x >>> UInt32.ofNat 24 from rfl, h1, UInt64.toNat_toUInt8, shr8n, shr8n, shr8n, UInt32.toNat_toUInt64]; omega
  have e2 : (x.toUInt64 >>> 8 >>> 8).toUInt8 = (x >>> 16).toUInt8 := by
    apply UInt8.toNat_inj.1
    rw [show (x >>> 16 : UInt32) = x >>> UInt32.ofNat 16 from rfl, h2, UInt64.toNat_toUInt8, shr8n, shr8n, UInt32.toNat_toUInt64]; omega
  have e3 : (x.toUInt64 >>> 8).toUInt8 = (x >>> 8).toUInt8 := by
    apply UInt8.toNat_inj.1
    rw [show (x >>> 8 : UInt32) = x >>> UInt32.ofNat 8 from rfl, h3, UInt64.toNat_toUInt8, shr8n, UInt32.toNat_toUInt64]
  have e4 : x.toUInt64.toUInt8 = x.toUInt8 := by
    apply UInt8.toNat_inj.1
    rw [UInt64.toNat_toUInt8, UInt32.toNat_toUInt8, UInt32.toNat_toUInt64]
  rw [e1, e2, e3, e4]
theorem blocks_length (h : List UInt32) (hl : h.length = 8) (b : List UInt8) (n : Nat) : (blocks h b n).length = 8 := by
  cases n with
  | zero => exact hl
  | succ n => simp [blocks, block]
end Go.Sha
namespace Go.Proofs.Ytdmifbfgeeldnaa
open Go.RowKit Go.Sec Go.Oct Go.Sha BigFrame

theorem tailB_lt (rest : List UInt8) (count : Nat) (h : rest.length + 9 ≤ 64) : tailB rest count = rest ++ [128] ++ List.replicate (55 - rest.length) 0 ++ putL 8 (UInt64.ofNat (count * 8)) := by
  unfold tailB
  rw [show tailN rest.length = 55 - rest.length by unfold tailN; omega]
theorem tailB_ge (rest : List UInt8) (count : Nat) (h : 64 < rest.length + 9) (h2 : rest.length < 64) : tailB rest count = rest ++ [128] ++ List.replicate (119 - rest.length) 0 ++ putL 8 (UInt64.ofNat (count * 8)) := by
  unfold tailB
  rw [show tailN rest.length = 119 - rest.length by unfold tailN; omega]

theorem fin_copied {w W1 w2 : World} {ge gw nr : Nat} {T TW : TypeId} {A vs : List Value} {rest : List UInt8} (hB2 : Blk w2 ge T A) (e : A = (rest ++ List.replicate (128 - nr) (0 : UInt8)).map u8v) (hrl : rest.length = nr) (hn : nr < 64) (hM2 : Mut ge W1 w2)
    (hR : Blk W1 gw TW vs) (hne : gw ≠ ge) (hE : Ext w W1) (hle : w.heap.size ≤ ge) :
    Blk w2 ge T ((rest ++ List.replicate (128 - nr) (0 : UInt8)).map u8v) ∧ Blk w2 gw TW vs ∧ Ext w w2 ∧ w2.cell? ⟨ge, nr, none⟩ = some (.int .u8 (n8 0)) ∧ w2.frozen? ⟨ge, nr, none⟩ = false ∧ BlkLt ge w2 ∧ BlkLt gw w2 := by
  rw [e] at hB2
  have hR2 := Blk.turn hM2 hR hne
  refine ⟨hB2, hR2, Below.trans hE (hM2.below hle hE.size), ?_, hB2.free nr, hB2.blt, hR2.blt⟩
  refine hB2.cell? nr ?_
  rw [List.map_append, List.getElem?_append_right (by simp; omega), List.length_map, hrl, Nat.sub_self, List.map_replicate, List.getElem?_replicate, if_pos (by omega)]
end Go.Proofs.Ytdmifbfgeeldnaa
