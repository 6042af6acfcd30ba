/- The laws of layer 5 that need no document: CmacOneBlock. -/
import Derived.Test.YthooaeeajeajnaaCmac4
import Derived.Test.YthooaeeajeajnaaCmacQ
import Derived.Test.YthooaeeajeajnaaCiphD
namespace Go.Proofs.Ythooaeeajeajnaa
open Go.RowKit Go.Sec Go.Oct Go.Aes Go.Sha BigFrame

set_option maxRecDepth 100000 in
set_option maxHeartbeats 4000000 in
theorem cmacOneBlock_walk (seed n0 at' by' : Int) (w : World) : Calls Try.prog 5 #[.int .i64 seed, .int .i64 n0, .int .i64 at', .int .i64 by'] w fun e w' => e = .returned (.bool true) ∧ Ext w w' := by
  obtain ⟨s, hs⟩ : ∃ s : Nat, seed % 1000 = (s : Int) := ⟨(seed % 1000).toNat, by omega⟩
  have hs1 : s < 1000 := by omega
  have HS := Lib.hid hs
  clear hs
  obtain ⟨n, hn⟩ : ∃ n : Nat, 1 + n0 % 16 = (n : Int) := ⟨(1 + n0 % 16).toNat, by omega⟩
  have hn1 : 1 ≤ n := by omega
  have hn2 : n ≤ 16 := by omega
  have hm0 : 0 ≤ n0 % 16 := by omega
  have hm1 : n0 % 16 < 16 := by omega
  have HN := Lib.hid hn
  clear hn
  have hne : (cmac (wbytes s 16) (wbytes (s + 7) n) == cmac (wbytes s 16) (chg (wbytes (s + 7) n) at' by')) = false := by
    rw [beq_eq_false_iff_ne]
    intro h
    have hl := wbytes_length (s + 7) n
    exact chg_ne _ at' by' (by omega) (cmac_one _ (by rw [chg_length]) (by omega) h).symm
  go_enter Try.func5, Try.ntmps5
  go_wp2_with fail; (with_reducible refine (within_any seed 1000 _ (by omega) (by omega)).mono ?_); rintro e w1 ⟨rfl, hxq⟩; obtain ⟨xq, rfl⟩ := hxq.out; clear hxq
  rw [HS.out]
  go_wp2_with fail; (with_reducible refine (wbytes_any s 16 (by omega) (by omega) _ (by omega) (by omega)).mono ?_); rintro e w1 ⟨a1, c1, rfl, hO1, hx1⟩
  go_wp2_with fail; (with_reducible refine (within_any seed 1000 _ (by omega) (by omega)).mono ?_); rintro e w1 ⟨rfl, hxq⟩; obtain ⟨xq, rfl⟩ := hxq.out; clear hxq
  rw [HS.out]
  go_wp2_with fail; (with_reducible refine (within_any n0 16 _ (by omega) (by omega)).mono ?_); rintro e w1 ⟨rfl, hxq⟩; obtain ⟨xq, rfl⟩ := hxq.out; clear hxq
  have hle1 := hO1.le
  go_wp2_with fail; (with_reducible refine (wbytes_any (s + 7) n (by omega) (by have := HN.out; omega) _ (by omega) (by omega)).mono ?_); rintro e w2 ⟨a2, c2, rfl, hO2, hx2⟩
  have hle2 := hO2.le
  have h1 := hO1.sl
  have h2 := hO2.sl
  have hx12 : Ext w1 w2 := Ext.trans (Ext.ext (Ext.of_ext _ _) _) hx2
  have hw2 : Ext w w2 := (Ext.of_ext _ _).trans (hx1.trans hx12)
  generalize wbytes s 16 = ky at *
  generalize wbytes (s + 7) n = b at *
  have hbl := h2.len
  go_wp2_with fail; (with_reducible refine (cmac_any a1 a2 c1 n c2 ky b _ (h1.ext hx12) hle1.1 h2 hle2.1 (by omega)).mono ?_); rintro e w3 ⟨a3, c3, rfl, hS3, hc3, hx3⟩
  go_wp2_with fail; (with_reducible refine (changed_any a2 n c2 b at' by' _ (h2.ext hx3) hn1 (by omega)).mono ?_); rintro e w4 ⟨a4, c4, rfl, hO4, hx4⟩
  have hle4 := hO4.le
  go_wp2_with fail; (with_reducible refine (cmac_any a1 a4 c1 n c4 ky (chg b at' by') _ (h1.ext (hx12.trans (hx3.trans hx4))) hle1.1 hO4.sl hle4.1 (by omega)).mono ?_); rintro e w5 ⟨a5, c5, rfl, hS5, hc5, hx5⟩
  go_wp2_with fail; (with_reducible refine (known5_any _).mono ?_); rintro e w1 ⟨rfl, hxq⟩; obtain ⟨xq, rfl⟩ := hxq.out; clear hxq
  have hS3' := (hS3.ext (hx4.trans hx5))
  go_wp2_with fail; (with_reducible refine (same_any a3 a5 16 c3 16 c5 _ _ _ (hS3'.ext (Ext.of_ext _ _)) (hS5.ext (Ext.of_ext _ _))).mono ?_); rintro e w1 ⟨rfl, hxq⟩; obtain ⟨xq, rfl⟩ := hxq.out; clear hxq
  rw [hne]
  go_wp2
  go_returns
  have := hw2.trans (hx3.trans (hx4.trans hx5))
  exact ⟨rfl, (by repeat (first | (with_reducible first | exact Ext.refl _ | assumption | apply Ext.alloc | apply Ext.ext | apply Ext.drew | refine Ext.setCell ?_ ?_ _) | (focus (simp [go_sem]; done))))⟩
end Go.Proofs.Ythooaeeajeajnaa
