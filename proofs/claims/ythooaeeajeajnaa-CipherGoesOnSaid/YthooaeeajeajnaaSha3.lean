/- The document's SHA-256: the constants, the end, the whole. -/
import Derived.Test.YthooaeeajeajnaaSha2
import Derived.Test.YthooaeeajeajnaaShaQ
import Derived.Test.YthooaeeajeajnaaGrow
namespace Go.Proofs.Ythooaeeajeajnaa
open Go.RowKit Go.Sec Go.Oct Go.Sha BigFrame

set_option maxRecDepth 100000 in
set_option maxHeartbeats 2000000 in
theorem consts_any (w : World) : Calls Try.prog 82 #[] w fun e w' => ∃ a c, e = .returned (.slice a 64 c) ∧ Sw w' a 64 ks ∧ Ext w w' := by
  go_enter Try.func82, Try.ntmps82
  go_wp2
  go_ret
  exact ⟨_, _, rfl, ⟨rfl, (Blk.new _ _ _).rd⟩, (by repeat (first | (with_reducible first | exact Ext.refl _ | assumption | apply Ext.alloc | apply Ext.ext | apply Ext.drew | refine Ext.setCell ?_ ?_ _) | (focus (simp [go_sem]; done))))⟩
set_option maxRecDepth 100000 in
set_option maxHeartbeats 2000000 in
theorem first_any (w : World) : Calls Try.prog 81 #[] w fun e w' => ∃ a c, e = .returned (.slice a 8 c) ∧ Sw w' a 8 h0 ∧ Ext w w' := by
  go_enter Try.func81, Try.ntmps81
  go_wp2
  go_ret
  exact ⟨_, _, rfl, ⟨rfl, (Blk.new _ _ _).rd⟩, (by repeat (first | (with_reducible first | exact Ext.refl _ | assumption | apply Ext.alloc | apply Ext.ext | apply Ext.drew | refine Ext.setCell ?_ ?_ _) | (focus (simp [go_sem]; done))))⟩

theorem put_n (v : UInt64) (n : Nat) {vI nI : Int} (hv : vI = n64 v) (hn : nI = (n : Int)) (w : World) (h1 : n ≤ 64) : Calls Try.prog 55 #[.int .u64 vI, .int .i64 nI] w (Fresh n (putL n v) w) := by
  subst hv hn
  exact put_any v n w h1
theorem count8 (count : Nat) (hc : count ≤ 1152921504606846976) : (count : Int) * 8 = n64 (UInt64.ofNat (count * 8)) := by
  unfold n64
  rw [UInt64.toNat_ofNat']
  omega

set_option maxRecDepth 100000 in
set_option maxHeartbeats 4000000 in
theorem finish_any (a ar : Option Addr) (ch nr cr count : Nat) (h : List UInt32) (rest : List UInt8) (w : World) (Hh : Sw w a 8 h) (Hr : Sl w ar nr rest) (hn : nr ≤ 1000000) (hc : count ≤ 1152921504606846976) :
    Calls Try.prog 84 #[.slice a 8 ch, .slice ar nr cr, .int .i64 count] w (Fresh 32 (fin h rest count) w) := by
  have hc8 := Lib.hid (count8 count hc)
  go_enter Try.func84, Try.ntmps84
  go_wp2_with fail
  refine (consts_any _).mono ?_
  rintro e w1 ⟨ak, ck, rfl, Hk, hx1⟩
  go_wp2_with fail
  refine (join_any _ 1 1 [rest] _ (bss1 (Hr.ext hx1) _) (by omega) nr (by rw [joinL1, Hr.len]) (by omega)).mono ?_
  rintro e w2 ⟨a2, c2, rfl, hO2, hx2⟩
  rw [joinL1] at hO2
  have hx2' : Ext w1 w2 := Ext.trans (Ext.alloc (Ext.refl _) _) hx2
  go_wp2_with (at_builtin; refine wpList_append_by U rfl _ _ rfl w1.heap.size a2 _ c2 _ rfl _ 1 1 _ rfl ((hO2.mono (by simp)).ext (by repeat (first | (with_reducible first | exact Ext.refl _ | assumption | apply Ext.alloc | apply Ext.ext | apply Ext.drew | refine Ext.setCell ?_ ?_ _) | (focus (simp [go_sem]; done))))) (sl_new1 _ 128 _) (by omega) (by simp; have := hx2'.size; omega) ?_; intro a3 c3 w3 hO3 hg3 hB3)
  have hx3 : Ext w1 w3 := Below.trans (b := w2.alloc _) (Ext.alloc hx2' _) hB3
  clear hB3 hg3
  go_loopw [8] (fun v8 wr => ∃ (m : Nat) (sa : Option Addr) (sc : Nat), m ≤ tailN nr ∧ v8 = .slice sa (nr + 1 + m) sc ∧ Own wr w1.heap.size sa (nr + 1 + m) sc (rest ++ [128] ++ List.replicate m 0) ∧ Ext w1 wr) (fun v8 _ => match v8 with | .slice _ m _ => nr + 1 + tailN nr - m | _ => 0)
  case atStart => exact ⟨0, a3, c3, by omega, rfl, by simpa using hO3, hx3⟩
  case round =>
    obtain ⟨m, sa, sc, hm, rfl, hO, hx⟩ := hrel
    have htl := tailN_lt nr
    by_cases hlt : m < tailN nr
    · have hne := tail_go nr m hlt
      have hmod : (((nr : Int) + 1 + (m : Int)) % 64 != 56) = true := by rw [bne_iff_ne]; omega
      clear hne
      have htl2 := Lib.hid htl
      clear htl
      go_wp2_with (at_builtin; refine wpList_append_by U rfl _ _ rfl w1.heap.size sa _ sc _ rfl _ 1 1 _ rfl (hO.ext (by repeat (first | (with_reducible first | exact Ext.refl _ | assumption | apply Ext.alloc | apply Ext.ext | apply Ext.drew | refine Ext.setCell ?_ ?_ _) | (focus (simp [go_sem]; done))))) (sl_new1 _ 0 _) (by have := htl2.out; omega) (by simp; have := hx.size; omega) ?_; intro sa2 sc2 w2 hO2 hg2 hB2)
      go_roundw
      case rel => exact ⟨m + 1, sa2, sc2, by omega, rfl, by rw [List.replicate_succ', ← List.append_assoc]; exact hO2, Below.trans (b := wr.alloc _) (by repeat (first | (with_reducible first | exact Ext.refl _ | assumption | apply Ext.alloc | apply Ext.ext | apply Ext.drew | refine Ext.setCell ?_ ?_ _) | (focus (simp [go_sem]; done)))) hB2⟩
      case measure => show _ - (nr + 1 + m + 1) < _ - (nr + 1 + m); omega
    · obtain ⟨q, hq⟩ : ∃ q, q = tailN nr := ⟨_, rfl⟩
      have hst := tail_stop nr
      obtain rfl : m = q := by omega
      rw [← hq] at htl hst
      have hmod : (((nr : Int) + 1 + (m : Int)) % 64 != 56) = false := by rw [bne_eq_false_iff_eq]; omega
      have HT := Lib.hid (show tailB rest count = rest ++ [128] ++ List.replicate m 0 ++ putL 8 (UInt64.ofNat (count * 8)) by rw [hq, ← Hr.len]; rfl)
      have HL : nr + 1 + m + 8 = 64 * ((nr + 1 + m + 8) / 64) := by omega
      obtain ⟨nb, hnb⟩ : ∃ nb, nb = (nr + 1 + m + 8) / 64 := ⟨_, rfl⟩
      rw [← hnb] at HL
      have HL2 := Lib.hid HL
      have HF := Lib.hid (show fin h rest count = outB (blocks h (tailB rest count) nb) by unfold fin; rw [tailB_length, Hr.len, ← hq, hnb])
      have hnbB : nb ≤ 1000000 := by omega
      clear hst hq HL hlt hm hnb
      go_wp2_with fail; (with_reducible refine (put_n (UInt64.ofNat (count * 8)) 8 hc8.out (by omega) _ (by omega)).mono ?_); rintro e w4 ⟨a4, c4, rfl, hO4, hx4⟩
      go_wp2_with (at_builtin; refine wpList_append_by U rfl _ _ rfl w1.heap.size sa _ sc _ rfl _ 8 _ _ rfl (hO.ext hx4) hO4.sl (by omega) (by have := hx.size; have := hx4.size; omega) ?_; intro a5 c5 w5 hO5 hg5 hB5)
      rw [← HT.out] at hO5
      have hx5 : Ext w1 w5 := Below.trans (b := w4) (hx.trans hx4) hB5
      have hle5 := hO5.le
      rw [HL2.out] at hO5 hle5 ⊢
      obtain ⟨T, hT⟩ : ∃ T, T = tailB rest count := ⟨_, rfl⟩
      rw [← hT] at HF hO5
      clear HT hT HL2
      have Hh5 := Hh.ext (hx1.trans hx5)
      have Hk5 : Sw w5 ak 64 ks := Hk.ext hx5
      obtain ⟨wq, rfl⟩ : ∃ wq : World, wq = w5 := ⟨_, rfl⟩
      go_wp2
      go_loopw [0, 9] (fun v0 v9 wr => ∃ (k : Nat) (ah : Option Addr) (ch' : Nat), k ≤ nb ∧ v9 = .int .i64 (64 * (k : Int)) ∧ v0 = .slice ah 8 ch' ∧ Sw wr ah 8 (blocks h T k) ∧ Ext wq wr) (fun _ v9 _ => 64 * nb - (intOf v9).toNat)
      case atStart => exact ⟨0, a, ch, by omega, rfl, rfl, Hh5, Ext.refl _⟩
      case round =>
        obtain ⟨k, ah, ch', hk, rfl, rfl, Hhk, hxk⟩ := hrel
        by_cases hlt : k < nb
        · have HB := Lib.hid (show blocks h T (k + 1) = block (blocks h T k) ((T.drop (64 * k)).take 64) from rfl)
          have HS := ((hO5.ext hxk).sl.drop c5 (64 * k) (by omega)).take 64 (by omega)
          go_wp2_with fail
          (with_reducible refine (rblock_any _ _ _ _ _ _ _ _ _ Hhk (Hk5.ext hxk) HS).mono ?_)
          rintro e w6 ⟨a6, c6, rfl, H6, hx6⟩
          go_wp2
          go_roundw
          case rel => exact ⟨k + 1, a6, c6, by omega, by go_num, rfl, by rw [HB.out]; exact H6, hxk.trans hx6⟩
          case measure => simp [intOf]; omega
        · obtain rfl : k = nb := by omega
          have HO := Lib.hid (show outB (blocks h T k) = outTo (blocks h T k) 8 from rfl)
          generalize blocks h T k = hs at *
          go_wp2
          obtain ⟨wp, rfl⟩ : ∃ wp : World, wp = wr := ⟨_, rfl⟩
          go_loopw [10, 11] (fun v10 v11 wr => ∃ (i : Nat) (so : Option Addr) (co : Nat), i ≤ 8 ∧ v11 = .int .i64 i ∧ v10 = .slice so (4 * i) co ∧ Own wr wp.heap.size so (4 * i) co (outTo hs i) ∧ Ext wp wr) (fun _ v11 _ => 8 - (intOf v11).toNat)
          case atStart => exact ⟨0, _, _, by omega, rfl, rfl, own_empty _, (by repeat (first | (with_reducible first | exact Ext.refl _ | assumption | apply Ext.alloc | apply Ext.ext | apply Ext.drew | refine Ext.setCell ?_ ?_ _) | (focus (simp [go_sem]; done))))⟩
          case round =>
            obtain ⟨i, so, co, hi, rfl, rfl, hOo, hxo⟩ := hrel
            by_cases hlt2 : i < 8
            · have HU := Lib.hid (outTo_succ hs i)
              obtain ⟨b9, o9, rfl, hb9, hc0⟩ := (Hhk.ext hxo).at i (by omega)
              have i0 : (0 : Int) ≤ (i : Int) := by omega
              have i1 : (i : Int) < 8 := by omega
              obtain ⟨x, hxx⟩ : ∃ x, Hid (x = w' hs i) := ⟨_, Lib.hid rfl⟩
              have hc9 : wr.cell? ⟨b9, o9 + i, none⟩ = some (.int .u32 (n32 x)) := by rw [hxx.out]; exact hc0
              clear hc0
              go_wp2_with fail; (with_reducible refine (put_n x.toUInt64 4 (by rfl) (by omega) _ (by omega)).mono ?_); rintro e w7 ⟨a7, c7, rfl, hO7, hx7⟩
              go_wp2_with (at_builtin; refine wpList_append_by U rfl _ _ rfl wp.heap.size so _ co _ rfl _ 4 _ _ rfl (hOo.ext hx7) hO7.sl (by omega) (by have := hxo.size; have := hx7.size; omega) ?_; intro a8 c8 w8 hO8 hg8 hB8)
              go_roundw
              case rel => exact ⟨i + 1, a8, c8, by omega, by go_num, rfl, by rw [HU.out, ← hxx.out]; exact hO8, Below.trans (b := w7) (hxo.trans hx7) hB8⟩
              case measure => simp [intOf]; omega
            · obtain rfl : i = 8 := (by omega); (try simp only [Nat.reduceAdd, Nat.reduceMul, Nat.reduceDiv, Nat.reduceSub, Int.cast_ofNat_Int])
              go_wp2
              go_ret
              have hxa := hx1.trans (hx5.trans (hxk.trans hxo))
              exact ⟨_, _, rfl, by rw [HF.out, HO.out]; exact hOo.mono (hx1.trans (hx5.trans hxk)).size, hxa⟩
end Go.Proofs.Ythooaeeajeajnaa
