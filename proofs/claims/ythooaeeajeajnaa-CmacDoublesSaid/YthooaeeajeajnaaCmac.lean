/- The walks of layer 5, part one. -/
import Derived.Test.YthooaeeajeajnaaAes3
import Derived.Test.YthooaeeajeajnaaCmacP
import Derived.Test.YthooaeeajeajnaaArr3
import Derived.Laws.CopyOwn
namespace Go.Proofs.Ythooaeeajeajnaa
open Go.RowKit Go.Sec Go.Oct Go.Aes BigFrame

theorem mul135 (x : UInt8) : IntKind.u8.wrap (n8 x * 135) = n8 (x * 135) := by
  have h : (x * 135).toNat = x.toNat * 135 % 256 := UInt8.toNat_mul _ _
  unfold n8
  rw [IntKind.wrap_u8, h]
  omega
theorem at_end (l : List UInt8) (h : l.length = 16) : at' l 16 = 0 := by simp [at', h]

set_option maxRecDepth 100000 in
set_option maxHeartbeats 2000000 in
theorem twice_any (l : List UInt8) (hl : l.length = 16) (w : World) :
    Calls Try.prog 69 #[.agg (l.map u8v).toArray] w fun e w' => e = .returned (.agg ((tw l).map u8v).toArray) ∧ Ext w w' := by
  have hal : Try.prog.arrayLen 60 = 16 := by kernel_rfl
  go_enter Try.func69, Try.ntmps69
  go_wp2_with ((refine wpList_alloc_store (R60) rfl rfl _ _ rfl rfl rfl rfl (by simp [Act.put]) ((List.replicate 16 (0 : UInt8)).map u8v) rfl (by simp) (rfl) (one_u8 _) ?_; intro x hBx _))
  simp only [World.size_alloc] at hBx
  go_loopw [4, 5] (fun v4 v5 wr => ∃ k : Nat, k ≤ 16 ∧ v5 = .int .i64 ((k : Int) - 1) ∧ v4 = .int .u8 (n8 (at' l k >>> 7)) ∧ Blk wr w.heap.size 60 (l.map u8v) ∧ Blk wr (w.heap.size + 1 + 1) 60 ((dn (twG l) k).map u8v) ∧ Blk wr (w.heap.size + 1) 60 ((List.replicate 16 (0 : UInt8)).map u8v) ∧ Ext w wr) (fun _ v5 _ => (intOf v5 + 1).toNat)
  case atStart =>
    exact ⟨16, by omega, rfl, by rw [at_end _ hl]; rfl, (by repeat (first | assumption | (refine Blk.newAt _ _ _ _ ?_; first | rfl | (simp only [World.size_alloc]; done)) | apply Blk.ext | apply Blk.alloc | (refine Blk.other ?_ ?_ _; rotate_left; (simp <;> omega)))), by rw [dn_full]; exact hBx, (by repeat (first | assumption | (refine Blk.newAt _ _ _ _ ?_; first | rfl | (simp only [World.size_alloc]; done)) | apply Blk.ext | apply Blk.alloc | (refine Blk.other ?_ ?_ _; rotate_left; (simp <;> omega)))), (by repeat (first | (with_reducible first | exact Ext.refl _ | assumption | apply Ext.alloc | apply Ext.ext | apply Ext.drew | refine Ext.setCell ?_ ?_ _) | (focus (simp [go_sem]; done))))⟩
  case round =>
    obtain ⟨k, hk, rfl, rfl, hBl, hBo, hBz, hx⟩ := hrel
    by_cases h0 : 0 < k
    · obtain ⟨j, rfl⟩ : ∃ j, k = j + 1 := ⟨k - 1, by omega⟩
      have hj : j < 16 := by omega
      have hc := hBl.cell? j (v := .int .u8 (n8 (at' l j))) (by rw [List.getElem?_map, at_get _ _ (by omega)]; simp [show j < l.length by omega])
      obtain ⟨vo, hvo⟩ : ∃ v, wr.cell? ⟨w.heap.size + 1 + 1, j, none⟩ = some v := ⟨_, hBo.cell j (by rw [List.length_map, dn_length _ _ hk]; exact hj)⟩
      have hf := hBo.free j
      have HG := Lib.hid (show twG l j = (at' l j <<< 1) ||| (at' l (j + 1) >>> 7) from rfl)
      have HD := Lib.hid (dn_set (twG l) j hj)
      have j0 : (0 : Int) ≤ (j : Int) := by omega
      have j1 : (j : Int) < 16 := by omega
      haveI := hBo.blt
      go_wp2
      go_roundw
      case rel =>
        refine ⟨j, by omega, by go_num, rfl, (by repeat (first | assumption | (refine Blk.newAt _ _ _ _ ?_; first | rfl | (simp only [World.size_alloc]; done)) | apply Blk.ext | apply Blk.alloc | (refine Blk.other ?_ ?_ _; rotate_left; (simp <;> omega)))), ?_, (by repeat (first | assumption | (refine Blk.newAt _ _ _ _ ?_; first | rfl | (simp only [World.size_alloc]; done)) | apply Blk.ext | apply Blk.alloc | (refine Blk.other ?_ ?_ _; rotate_left; (simp <;> omega)))), Ext.setCell hx (by simp <;> omega) _⟩
        have := hBo.set j (u8v (twG l j))
        rw [← List.map_set, HD.out, HG.out] at this
        exact this
      case measure => simp [intOf] <;> omega
    · obtain rfl : k = 0 := by omega
      have HT := Lib.hid (tw_eq l)
      rw [dn_zero] at hBo
      have hm := mul135 (at' l 0 >>> 7)
      have hm2 : n8 (at' l 0 >>> 7) * 135 % 256 = n8 ((at' l 0 >>> 7) * 135) := by rw [← hm, IntKind.wrap_u8]; rfl
      have hc := hBo.cell? 15 (v := .int .u8 (n8 (twG l 15))) (by simp)
      have hf := hBo.free 15
      haveI := hBo.blt
      have hBs := hBo.set 15 (u8v (twG l 15 ^^^ ((at' l 0 >>> 7) * 135)))
      rw [← List.map_set, HT.out] at hBs
      go_wp2_with (first
        | (refine wpList_load_arr (R60) rfl _ rfl (w.heap.size + 1 + 1) (0) rfl ((tw l).map u8v) (hBs.rd) ((by simp [tw_length])) ?_)
        | (refine wpList_store_arr (R60) rfl _ _ rfl (w.heap.size + 1) (0) rfl ((tw l).map u8v) rfl (60) _ ((hBz.other (by simp) _)) ((by simp [tw_length])) (by simp) (by first | exact one_u8 _ | simp) ?_; intro ws hB hM))
      have hB : Blk ws (w.heap.size + 1) 60 ((tw l).map u8v) := by simpa [tw_length] using hB
      refine bodyPost_ret (results_arr Try.results69 (R60) _ _ (w.heap.size + 1) (0) ((tw l).map u8v) rfl (hB.rd) ((by simp [tw_length]))) rfl ?_
      exact ⟨rfl, Below.trans (Ext.setCell hx (by simp <;> omega) _) (hM.below (by simp) (Ext.setCell hx (by simp <;> omega) _).size)⟩

set_option maxRecDepth 100000 in
set_option maxHeartbeats 2000000 in
theorem double_any (a : Option Addr) (c : Nat) (l : List UInt8) (w : World) (h : Sl w a 16 l) :
    Calls Try.prog 36 #[.slice a 16 c] w fun e w' => ∃ a' c', e = .returned (.slice a' 16 c') ∧ 16 ≤ c' ∧ Sl w' a' 16 (tw l) ∧ Ext w w' := by
  have hl := h.len
  obtain ⟨b0, o0, rfl, hb0, _⟩ := h.at 0 (by omega)
  have har2 := fun W a len cap => run_arrayAt (P := Try.prog) W 60 5 16 a len cap Try.underlying60
  have hlb := h.by'
  go_enter Try.func36, Try.ntmps36
  go_wp2_with (first
    | (refine wpList_load_arr (R60) rfl _ rfl (b0) (o0) rfl (l.map u8v) (hlb) ((by simpa using hl)) ?_)
    | fail)
  refine (twice_any l hl _).mono ?_
  rintro e w1 ⟨rfl, hx1⟩
  go_wp2_with (first
    | (refine wpList_alloc_store (R60) rfl rfl _ _ rfl rfl rfl rfl (by simp [Act.put]) ((tw l).map u8v) rfl (by simp) ((by simp [tw_length])) (one_u8 _) ?_; intro x hBx _))
  go_ret
  exact ⟨_, _, rfl, by omega, hBx.sl (tw_length _), (by repeat (first | (with_reducible first | exact Ext.refl _ | assumption | apply Ext.alloc | apply Ext.ext | apply Ext.drew | refine Ext.setCell ?_ ?_ _) | (focus (simp [go_sem]; done))))⟩

/-- The cells of a cipher with its subkeys. -/
def kc (c : Nat) (wh pt : List UInt8) : List Value := .pointer (some ⟨c, 0, none⟩) :: (wh ++ pt).map u8v
theorem R71 : RowT Try.prog 71 33 := ⟨⟨_, Try.underlying71, rfl⟩, by kernel_rfl, ⟨_, Try.zeroValue71, by kernel_rfl⟩⟩
set_option maxRecDepth 100000 in
set_option maxHeartbeats 2000000 in
theorem ready_any (a : Option Addr) (c : Nat) (ky : List UInt8) (w : World) (h : Sl w a 16 ky) (hc : 16 ≤ c) :
    Calls Try.prog 63 #[.slice a 16 c] w fun e w' => ∃ g, e = .returned (.tuple #[.agg (kc g (sub1 (expand ky)) (sub2 (expand ky))).toArray, .int .i64 0]) ∧ w.heap.size ≤ g ∧ Blk w' g 80 ((expand ky).map u8v) ∧ Ext w w' := by
  have hkl := h.len
  have HK : (expand ky).length = 176 := words_length ky 40 hkl
  have HS1 := Lib.hid (show sub1 (expand ky) = tw (enc (expand ky) zero16) from rfl)
  have HS2 := Lib.hid (show sub2 (expand ky) = tw (sub1 (expand ky)) from rfl)
  have hL1 : (sub1 (expand ky)).length = 16 := tw_length _
  have hL2 : (sub2 (expand ky)).length = 16 := tw_length _
  generalize sub2 (expand ky) = k2 at *
  generalize sub1 (expand ky) = k1 at *
  generalize hks : expand ky = ks at *
  go_enter Try.func63, Try.ntmps63
  go_wp2_with fail
  refine (new_any a c ky _ (h.ext (by repeat (first | (with_reducible first | exact Ext.refl _ | assumption | apply Ext.alloc | apply Ext.ext | apply Ext.drew | refine Ext.setCell ?_ ?_ _) | (focus (simp [go_sem]; done))))) hc).mono ?_
  rintro e w1 ⟨g, rfl, hg, hB1, hx1⟩
  rw [hks] at hB1
  clear hks
  obtain ⟨zs, hzl, hz⟩ : ∃ zs : List Value, zs.length = 33 ∧ Blk w1 w.heap.size 71 zs := ⟨_, rfl, (Blk.new _ _ _).extB hx1⟩
  have hxw : Ext w w1 := Ext.trans (Ext.of_alloc _ _) hx1
  simp only [World.size_alloc] at hg
  clear hx1
  have hgl := hB1.lt
  have hwl := hz.lt
  go_wp2_with ((refine wpList_alloc_store (R71) rfl rfl _ _ rfl rfl rfl rfl (by simp [Act.put]) ((.pointer (some ⟨g, 0, none⟩) :: List.replicate 32 (u8v 0))) rfl (by simp) (rfl) ((by intro u hu; simp at hu; rcases hu with rfl | rfl <;> rfl)) ?_; intro x hBk _); have hk0 := hBk.cell? 0 rfl)
  have hkl' := hBk.lt
  have hzx := (hz.ext x)
  have hsx : w1.heap.size ≤ (w1.ext x).heap.size := (Ext.of_ext w1 x).size
  have hxe : Ext w ((w1.ext x)) := hxw.ext x
  have hB1x := hB1.ext x
  clear hk0
  generalize hW : w1.ext x = W at *
  refine (enc_any W.heap.size g 0 60 zero16 ks _ (Blk.newAt _ _ _ _ rfl) rfl HK (hB1x.alloc _).rd (by omega)).mono ?_
  rintro e w2 ⟨rfl, hBe, hM2⟩
  have hB2 := (hB1x.alloc _).turn hM2 (by omega)
  have hBk2 := (hBk.alloc _).turn hM2 (by omega)
  have hz2 := (hzx.alloc _).turn hM2 (by omega)
  have hx2 : Ext w w2 := Below.trans (b := W.alloc _) (hxe.alloc _) (hM2.below (by have := hxe.size; omega) (by simp; have := hxe.size; omega))
  clear hM2 hB1x hBk hzx
  have hs2 : W.heap.size < w2.heap.size := hBe.lt
  go_wp2_with (first
    | (refine wpList_load_arr (R60) rfl _ rfl (W.heap.size) (0) rfl ((enc ks zero16).map u8v) (hBe.rd) ((by simp [enc_length])) ?_)
    | fail)
  refine (twice_any _ (enc_length _ _) _).mono ?_
  rintro e w3 ⟨rfl, hx3⟩
  rw [← HS1.out]
  have hBk3 := hBk2.extB hx3
  have hz3 := hz2.extB hx3
  have hB3 := hB2.extB hx3
  have hxw3 := hx2.trans hx3
  have hs3 := hx3.size
  clear hBk2 hz2 hB2 hBe
  have hw1 : w.heap.size < w1.heap.size := hwl
  go_wp2_with (first
    | (refine wpList_store_arr (R60) rfl _ _ rfl (w1.heap.size) (1) rfl (k1.map u8v) rfl (71) _ (hBk3) ((by simpa using hL1)) (by simp) (by first | exact one_u8 _ | simp) ?_; intro w4 hBk4 hM4); have hk4 : Blk w4 w1.heap.size 71 (.pointer (some ⟨g, 0, none⟩) :: (k1.map u8v ++ List.replicate 16 (u8v 0))) := hBk4; have hrk : Rd w4 (some ⟨w1.heap.size, 1, none⟩) (k1.map u8v) := (by have := (hk4.rdAt 1).head 16; simpa [hL1] using this); clear hBk4
    | (refine wpList_load_arr (R60) rfl _ rfl (w1.heap.size) (1) rfl (k1.map u8v) (hrk) ((by simpa using hL1)) ?_)
    | fail)
  have hz4 := hz3.turn hM4 (by omega)
  have hB4 := hB3.turn hM4 (by omega)
  have hxw4 : Ext w w4 := Below.trans hxw3 (hM4.below (by omega) hxw3.size)
  clear hz3 hB3 hM4 hrk
  refine (twice_any k1 hL1 _).mono ?_
  rintro e w5 ⟨rfl, hx5⟩
  rw [← HS2.out]
  have hk5 := hk4.extB hx5
  have hz5 := hz4.extB hx5
  have hB5 := hB4.extB hx5
  have hxw5 := hxw4.trans hx5
  clear hk4 hz4 hB4 hBk3
  have hkcl : (kc g k1 k2).length = 33 := by simp [kc, hL1, hL2]
  have hE6 : ((.pointer (some ⟨g, 0, none⟩) :: (k1.map u8v ++ List.replicate 16 (u8v 0))).take 17 ++ k2.map u8v ++ (.pointer (some ⟨g, 0, none⟩) :: (k1.map u8v ++ List.replicate 16 (u8v 0))).drop (17 + 16)) = kc g k1 k2 := by
    have h1 : (k1.map u8v).length = 16 := by simpa using hL1
    have h2 : (k1.map u8v ++ List.replicate 16 (u8v 0)).take 16 = k1.map u8v := by rw [List.take_append_of_le_length (by omega), List.take_of_length_le (by omega)]
    simp only [List.take_succ_cons, List.drop_succ_cons, h2]
    rw [List.drop_of_length_le (by simp; omega)]
    simp [kc]
  have hkc1 : ∀ u ∈ kc g k1 k2, u.oneCell' = true := by
    intro u hu
    rcases List.mem_cons.1 hu with rfl | hu
    · rfl
    · exact one_u8 _ u hu
  go_wp2_with (first
    | (refine wpList_store_arr R60 rfl _ _ rfl w1.heap.size 17 rfl (k2.map u8v) rfl 71 _ hk5 (by simpa using hL2) (by simp [hL1]) (one_u8 _) ?_; intro w6 hBk6 hM6); have hk6 : Blk w6 w1.heap.size 71 (kc g k1 k2) := (by rw [← hE6]; exact hBk6); have hz6 := hz5.turn hM6 (by omega); clear hBk6
    | (refine wpList_load_arr (R71) rfl _ rfl (w1.heap.size) (0) rfl (kc g k1 k2) (hk6.rd) (hkcl) ?_)
    | (refine wpList_store_arr R71 rfl _ _ rfl w.heap.size 0 rfl (kc g k1 k2) rfl 71 _ hz6 hkcl (by omega) hkc1 ?_; intro w7 hz7 hM7)
    | fail)
  have hzf : Blk w7 w.heap.size 71 (kc g k1 k2) := by
    have e : zs.take 0 ++ kc g k1 k2 ++ zs.drop (0 + 33) = kc g k1 k2 := by simp [hzl]
    rwa [e] at hz7
  refine bodyPost_ret (results_arr_tmp Try.results63 (R71) _ _ (w.heap.size) (0) (kc g k1 k2) rfl (hzf.rd) (hkcl) (.int .i64 0) rfl) rfl ?_
  have hxw6 : Ext w w6 := Below.trans hxw5 (hM6.below (by omega) hxw5.size)
  exact ⟨g, rfl, by omega, (hB5.turn hM6 (by omega)).turn hM7 (by omega), Below.trans hxw6 (hM7.below (Nat.le_refl _) hxw6.size)⟩
end Go.Proofs.Ythooaeeajeajnaa
