/- The walks of AES-128, part two: encryption, the keys. -/
import Derived.Test.YthooaeeajeajnaaAes
namespace Go.Proofs.Ythooaeeajeajnaa
open Go.RowKit Go.Sec Go.Oct Go.Aes BigFrame

theorem rd_key {w : World} {c off : Nat} {ks : List UInt8} (h : Rd w (some ⟨c, off, none⟩) (ks.map u8v)) (r : Nat) : Rd w (some ⟨c, off + r * 16, none⟩) ((key ks r).map u8v) := by
  rcases h with h | ⟨b, o, ha, hb, hc⟩
  · left
    have : ks = [] := by simpa using h
    subst this
    simp [key]
  · injection ha with ha
    injection ha with e1 e2
    subst e1 e2
    refine .inr ⟨c, off + r * 16, rfl, hb, fun k v hk => ?_⟩
    rw [Nat.add_assoc]
    refine hc (r * 16 + k) v ?_
    rw [Nat.mul_comm r 16]
    unfold key at hk
    rw [List.getElem?_map] at hk ⊢
    rw [List.getElem?_take] at hk
    split at hk
    · rw [List.getElem?_drop] at hk; exact hk
    · cases hk

set_option maxRecDepth 100000 in
set_option maxHeartbeats 2000000 in
theorem enc_any (g c off : Nat) (T : TypeId) (l ks : List UInt8) (w : World) (hB : Blk w g T (l.map u8v)) (hl : l.length = 16) (hk : ks.length = 176) (hR : Rd w (some ⟨c, off, none⟩) (ks.map u8v)) (hne : c ≠ g) :
    Calls Try.prog 57 #[.pointer (some ⟨c, off, none⟩), .pointer (some ⟨g, 0, none⟩)] w fun e w' => e = .returned (.tuple #[]) ∧ Blk w' g T ((enc ks l).map u8v) ∧ Mut g w w' := by
  go_enter Try.func57, Try.ntmps57
  go_wp2_with fail
  refine (xor_any g T l (key ks 0) c (off + 0 * 16) _ hB hl (key_length ks 0 hk (by omega)) (rd_key hR 0) hne).mono ?_
  rintro e w1 ⟨rfl, hB1, hM1⟩
  go_wp2_with fail
  go_loopw [4] (fun v4 wr => ∃ r : Nat, r ≤ 10 ∧ v4 = .int .i64 ((r + 1 : Nat) : Int) ∧ Blk wr g T ((rounds ks l r).map u8v) ∧ Mut g w wr) (fun v4 _ => 11 - (intOf v4).toNat)
  case atStart => exact ⟨0, by omega, rfl, hB1, hM1⟩
  case round =>
    obtain ⟨r, hr, rfl, hBr, hM⟩ := hrel
    have hlr := rounds_length ks l r
    by_cases hlt : r < 10
    · have hRk := rd_key hR (r + 1)
      have hkl := key_length ks (r + 1) hk (by omega)
      by_cases h9 : r + 1 < 10
      · have HS := Lib.hid (show rounds ks l (r + 1) = xor16 (mix (rep (rounds ks l r))) (key ks (r + 1)) by simp [rounds, h9])
        generalize rounds ks l r = s at *
        go_wp2_with fail
        refine (rep_any g T s _ hBr hlr).mono ?_
        rintro e w2 ⟨rfl, hB2, hM2⟩
        go_wp2_with fail
        refine (mix_any g T (rep s) _ hB2 (by simp [rep])).mono ?_
        rintro e w3 ⟨rfl, hB3, hM3⟩
        go_wp2_with fail
        refine (xor_any g T _ (key ks (r + 1)) c (off + (r + 1) * 16) _ hB3 (by simp [mix]) hkl (hRk.turn (hM.trans (hM2.trans hM3)) hne) hne).mono ?_
        rintro e w4 ⟨rfl, hB4, hM4⟩
        go_wp2_with fail
        go_roundw
        case rel => exact ⟨r + 1, by omega, by go_num, by rw [HS.out]; exact hB4, hM.trans (hM2.trans (hM3.trans hM4))⟩
        case measure => simp [intOf]; omega
      · have HS := Lib.hid (show rounds ks l (r + 1) = xor16 (rep (rounds ks l r)) (key ks (r + 1)) by simp [rounds, h9])
        generalize rounds ks l r = s at *
        go_wp2_with fail
        refine (rep_any g T s _ hBr hlr).mono ?_
        rintro e w2 ⟨rfl, hB2, hM2⟩
        go_wp2_with fail
        refine (xor_any g T _ (key ks (r + 1)) c (off + (r + 1) * 16) _ hB2 (by simp [rep]) hkl (hRk.turn (hM.trans hM2) hne) hne).mono ?_
        rintro e w4 ⟨rfl, hB4, hM4⟩
        go_wp2_with fail
        go_roundw
        case rel => exact ⟨r + 1, by omega, by go_num, by rw [HS.out]; exact hB4, hM.trans (hM2.trans hM4)⟩
        case measure => simp [intOf]; omega
    · obtain rfl : r = 10 := by omega
      go_wp2
      go_end0
      exact ⟨rfl, hBr, hM⟩

end Go.Proofs.Ythooaeeajeajnaa
