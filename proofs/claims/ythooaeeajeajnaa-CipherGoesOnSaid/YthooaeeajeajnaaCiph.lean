/- The walks of layer 4: products, the S-box, one block; the document's products and S-box; the sanity check. -/
import Derived.Test.YthooaeeajeajnaaAes3
import Derived.Test.YthooaeeajeajnaaUnhex
import Derived.Test.YthooaeeajeajnaaOct2
import Derived.Test.YthooaeeajeajnaaGfP
namespace Go.Proofs.Ythooaeeajeajnaa
open Go.RowKit Go.Sec Go.Oct Go.Aes BigFrame

set_option maxRecDepth 100000 in
set_option maxHeartbeats 1000000 in
theorem csub_any (x : UInt8) (w : World) :
    Calls Try.prog 22 #[.int .u8 (n8 x)] w fun e w' => e = .returned (.int .u8 (n8 (sub x))) ∧ Ext w w' := by
  go_enter Try.func22, Try.ntmps22
  go_wp2_with (go_at_call 60; refine (aessub_any x _).mono ?_; rintro e w1 ⟨rfl, hxq⟩; obtain ⟨xq, rfl⟩ := hxq.out; clear hxq)
  go_returns
  exact ⟨rfl, Ext.of_ext _ _⟩

theorem shr_lt (x : UInt8) (h : x ≠ 0) : (x >>> 1).toNat < x.toNat := by
  rw [UInt8.toNat_shiftRight]
  have : x.toNat ≠ 0 := fun e => h (UInt8.toNat_inj.1 (by simpa using e))
  have h1 : (1 : UInt8).toNat % 8 = 1 := rfl
  rw [h1, Nat.shiftRight_eq_div_pow]
  omega

theorem mul_end (x y : UInt8) (k : Nat) (h : shrs k y = 0) : mulSum x y k = mul x y := by
  rcases Nat.le_total k 8 with h8 | h8
  · exact mul_of_end x y k h8 h
  · have := (mulSum_end x y 8 (k - 8) (shrs8 y)).1
    rw [show 8 + (k - 8) = k by omega] at this
    rw [this, mul_eq]

set_option maxRecDepth 100000 in
set_option maxHeartbeats 2000000 in
theorem times_any (x y : UInt8) (w : World) :
    Calls Try.prog 24 #[.int .u8 (n8 x), .int .u8 (n8 y)] w fun e w' => e = .returned (.int .u8 (n8 (mul x y))) ∧ Ext w w' := by
  go_enter Try.func24, Try.ntmps24
  go_wp2
  go_loopw [0, 1, 5] (fun v0 v1 v5 wr => ∃ k : Nat, v0 = .int .u8 (n8 (dbls k x)) ∧ v1 = .int .u8 (n8 (shrs k y)) ∧ v5 = .int .u8 (n8 (mulSum x y k)) ∧ Ext w wr) (fun _ v1 _ _ => (intOf v1).toNat)
  case atStart => exact ⟨0, rfl, rfl, rfl, Ext.refl _⟩
  case round =>
    obtain ⟨k, rfl, rfl, rfl, hx⟩ := hrel
    have HS := Lib.hid (show mulSum x y (k + 1) = mulSum x y k ^^^ tk y k (dbls k x) from rfl)
    have HR := Lib.hid (show shrs (k + 1) y = shrs k y >>> 1 from rfl)
    have HD := Lib.hid (show dbls (k + 1) x = dbl (dbls k x) from rfl)
    have HT := Lib.hid (show tk y k (dbls k x) = if shrs k y &&& 1 == 1 then dbls k x else 0 from rfl)
    have HE := Lib.hid (mul_end x y k)
    generalize dbls k x = xk at *
    generalize mulSum x y k = o at *
    generalize shrs k y = yk at *
    by_cases h0 : yk = 0
    · subst h0
      go_wp2
      go_returns
      exact ⟨by rw [← HE.out trivial]; rfl, hx⟩
    · have hb : (yk != 0) = true := by simpa using h0
      have hm := shr_lt yk h0
      cases h1 : (yk &&& 1 == 1)
      · go_wp2_with (go_at_call 62; refine (dbl_any xk _).mono ?_; rintro e w1 ⟨rfl, hxq⟩; obtain ⟨xq, rfl⟩ := hxq.out; clear hxq)
        go_roundw
        case rel => exact ⟨k + 1, by rw [HD.out], by rw [HR.out], by rw [HS.out, HT.out, h1]; simp, hx.trans (Ext.of_ext _ _)⟩
        case measure => simp [intOf, go_sem]; exact hm
      · go_wp2_with (go_at_call 62; refine (dbl_any xk _).mono ?_; rintro e w1 ⟨rfl, hxq⟩; obtain ⟨xq, rfl⟩ := hxq.out; clear hxq)
        go_roundw
        case rel => exact ⟨k + 1, by rw [HD.out], by rw [HR.out], by rw [HS.out, HT.out, h1]; simp, hx.trans (Ext.of_ext _ _)⟩
        case measure => simp [intOf, go_sem]; exact hm

set_option maxRecDepth 100000 in
set_option maxHeartbeats 2000000 in
theorem rtimes_any (x y : UInt8) (w : World) :
    Calls Try.prog 25 #[.int .u8 (n8 x), .int .u8 (n8 y)] w fun e w' => e = .returned (.int .u8 (n8 (mul x y))) ∧ Ext w w' := by
  go_enter Try.func25, Try.ntmps25
  go_wp2
  go_loopw [0, 1, 5, 6] (fun v0 v1 v5 v6 wr => ∃ k : Nat, k ≤ 8 ∧ v0 = .int .u8 (n8 (dbls k x)) ∧ v1 = .int .u8 (n8 (shrs k y)) ∧ v5 = .int .u8 (n8 (mulSum x y k)) ∧ v6 = .int .i64 k ∧ Ext w wr) (fun _ _ _ v6 _ => 8 - (intOf v6).toNat)
  case atStart => exact ⟨0, by omega, rfl, rfl, rfl, rfl, Ext.refl _⟩
  case round =>
    obtain ⟨k, hk, rfl, rfl, rfl, rfl, hx⟩ := hrel
    by_cases hlt : k < 8
    · have HS := Lib.hid (show mulSum x y (k + 1) = mulSum x y k ^^^ tk y k (dbls k x) from rfl)
      have HR := Lib.hid (show shrs (k + 1) y = shrs k y >>> 1 from rfl)
      have HD := Lib.hid (show dbls (k + 1) x = dbl (dbls k x) from rfl)
      have HT := Lib.hid (show tk y k (dbls k x) = if shrs k y &&& 1 == 1 then dbls k x else 0 from rfl)
      generalize dbls k x = xk at *
      generalize mulSum x y k = o at *
      generalize shrs k y = yk at *
      have HB := Lib.hid (show dbl xk = if xk &&& 128 != 0 then (xk <<< 1) ^^^ 27 else xk <<< 1 from rfl)
      cases h1 : (yk &&& 1 == 1) <;> cases h2 : (xk &&& 128 != 0)
      all_goals
        go_wp2
        go_roundw
        case rel => exact ⟨k + 1, by omega, by rw [HD.out, HB.out, h2]; rfl, by rw [HR.out], by rw [HS.out, HT.out, h1]; simp, by go_num, hx⟩
        case measure => simp [intOf]; omega
    · obtain rfl : k = 8 := by omega
      have HE := Lib.hid (mul_eq x y)
      go_wp2
      go_returns
      exact ⟨by rw [HE.out]; rfl, hx⟩

set_option maxRecDepth 100000 in
set_option maxHeartbeats 2000000 in
theorem left_any (x : UInt8) (k : Nat) (h0 : 1 ≤ k) (h1 : k ≤ 4) (w : World) :
    Calls Try.prog 61 #[.int .u8 (n8 x), .int .i64 k] w fun e w' => e = .returned (.int .u8 (n8 (lft x k))) ∧ Ext w w' := by
  obtain rfl | rfl | rfl | rfl : k = 1 ∨ k = 2 ∨ k = 3 ∨ k = 4 := by omega
  all_goals
    go_enter Try.func61, Try.ntmps61
    go_wp2
    go_returns
    exact ⟨rfl, Ext.refl _⟩

end Go.Proofs.Ythooaeeajeajnaa
