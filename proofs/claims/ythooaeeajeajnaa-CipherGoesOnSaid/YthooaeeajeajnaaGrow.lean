/- The walks of slices.Grow, slices.Concat, and what stands on them. -/
import Derived.Test.YthooaeeajeajnaaOct3
import Derived.Test.YthooaeeajeajnaaArr
namespace Go.Proofs.Ythooaeeajeajnaa
open Go.RowKit Go.Sec Go.Oct BigFrame

theorem hint : Try.prog.underlying 3 = some (.int .i64) := Try.underlying3

set_option maxRecDepth 100000 in
set_option maxHeartbeats 2000000 in
theorem grow_any (base : Nat) (a : Option Addr) (n c k : Nat) (l : List UInt8) (w : World) (hO : Own w base a n c l) (hb : base ≤ w.heap.size) (hk : k ≤ 1000000000) (hn : n ≤ 1000000000) :
    Calls Try.prog 85 #[.slice a n c, .int .i64 k] w fun e w' => ∃ a' c', e = .returned (.slice a' n c') ∧ Own w' base a' n c' l ∧ Ext w w' := by
  have hle : n ≤ c ∧ c ≤ 9223372036854775807 := by
    rcases hO.2.2 with ⟨h1, h2⟩ | ⟨g, cap, cur, h1, _, _, h2, h3, _⟩
    · injection h1; omega
    · injection h1; simp only [maxLen] at h3; omega
  obtain ⟨hle, hc⟩ := hle
  by_cases hroom : k ≤ c - n
  · have k0 : (k : Int) ≤ (c : Int) - (n : Int) := by omega
    go_enter Try.func85, Try.ntmps85
    go_wp2
    go_ret
    exact ⟨_, _, rfl, hO, Ext.refl _⟩
  · obtain ⟨m, hm⟩ : ∃ m : Nat, m = k - (c - n) := ⟨_, rfl⟩
    have hm2 : (k : Int) - ((c : Int) - (n : Int)) = (m : Int) := by omega
    have hm0 : 0 < m := by omega
    obtain ⟨c', x, hcn, hrun, hO'⟩ := run_append_zeros8 U hint w 22 base a n c l hO m hm0 (by omega) hb
    clear hm hroom
    go_enter Try.func85, Try.ntmps85
    go_wp2_with (at_builtin; refine Lib.wpList_append_run _ rfl _ _ _ _ rfl _ _ rfl rfl _ _ hrun ?_)
    go_ret
    exact ⟨_, _, rfl, hO', Ext.of_ext _ _⟩

set_option maxRecDepth 100000 in
set_option maxHeartbeats 2000000 in
theorem concat_any (a : Option Addr) (n c : Nat) (L : List (List UInt8)) (w : World) (hL : Bss w a n L) (hn : n ≤ 100000) (N : Nat) (hN : (joinL L).length = N) (hmax : N ≤ 1000000000) :
    Calls Try.prog 95 #[.slice a n c] w (Fresh N (joinL L) w) := by
  go_enter Try.func95, Try.ntmps95
  go_wp2
  go_loopw [3, 5, 11] (fun v3 _ v11 wr => ∃ (k m : Nat), k ≤ n ∧ m ≤ N ∧ v11 = .int .i64 k ∧ v3 = .int .i64 m ∧ Hid ((joinL (L.take k)).length = m) ∧ Ext w wr) (fun _ _ v11 _ => n - (intOf v11).toNat)
  case atStart => exact ⟨0, 0, Nat.zero_le _, Nat.zero_le _, rfl, rfl, Lib.hid rfl, Ext.refl _⟩
  case round =>
    obtain ⟨k, m, hk, hm, rfl, rfl, hl, hx⟩ := hrel
    by_cases hlt : k < n
    · obtain ⟨b, off, a', n', c', rfl, hb, hc, hs⟩ := (hL.ext hx).at k hlt
      have hkl : k < L.length := by rw [hL.len]; exact hlt
      have HT := Lib.hid (joinL_take L k hkl)
      have hle2 : m + n' ≤ N := by
        have := joinL_le L (k + 1)
        rw [HT.out, List.length_append, hs.len, hl.out] at this
        omega
      go_wp2
      go_roundw
      case rel => exact ⟨k + 1, m + n', by omega, hle2, by go_num, by go_num, Lib.hid (by rw [HT.out, List.length_append, hl.out, hs.len]), hx⟩
      case measure => simp [intOf]; omega
    · obtain rfl : k = n := by omega
      have hmN : m = N := by rw [← hl.out, joinL_all L k hL.len, hN]
      subst hmN
      clear hl
      go_wp2_with fail
      refine (grow_any w.heap.size none 0 0 m [] _ (Own.nil _ _) hx.size (by omega) (by omega)).mono ?_
      rintro e w1 ⟨a1, c1, rfl, hO1, hx1⟩
      go_wp2_with fail
      go_loopw [6, 8, 27] (fun v6 _ v27 wr => ∃ (k' m' : Nat) (sa : Option Addr) (sc : Nat), k' ≤ k ∧ m' ≤ m ∧ v27 = .int .i64 k' ∧ v6 = .slice sa m' sc ∧ Own wr w.heap.size sa m' sc (joinL (L.take k')) ∧ Ext w wr) (fun _ _ v27 _ => k - (intOf v27).toNat)
      case atStart => exact ⟨0, 0, a1, c1, Nat.zero_le _, Nat.zero_le _, rfl, rfl, hO1, hx.trans hx1⟩
      case round =>
        obtain ⟨k', m', sa, sc, hk', hm', rfl, rfl, hO, hx2⟩ := hrel
        by_cases hlt' : k' < k
        · obtain ⟨b, off, a', n', c', rfl, hb, hc, hs⟩ := (hL.ext hx2).at k' hlt'
          have hkl : k' < L.length := by rw [hL.len]; exact hlt'
          have HT := Lib.hid (joinL_take L k' hkl)
          have hle2 : m' + n' ≤ m := by
            have := joinL_le L (k' + 1)
            rw [HT.out, List.length_append, hs.len, hO.1] at this
            omega
          go_wp2_with (at_builtin; refine wpList_append_by U rfl _ _ rfl w.heap.size sa _ sc _ rfl a' n' c' _ rfl hO hs (by omega) hx2.size ?_; intro sa2 sc2 w2 hO2 hg2 hB2)
          go_roundw
          case rel => exact ⟨k' + 1, _, sa2, sc2, by omega, hle2, by go_num, rfl, by rw [HT.out]; exact hO2, Below.trans hx2 hB2⟩
          case measure => simp [intOf]; omega
        · obtain rfl : k' = k := by omega
          go_wp2
          go_ret
          rw [joinL_all L k' hL.len] at hO
          have : m' = m := by rw [← hO.1, hN]
          subst this
          exact ⟨_, _, rfl, hO, hx2⟩

set_option maxRecDepth 100000 in
set_option maxHeartbeats 2000000 in
theorem ojoin_any (a : Option Addr) (n c : Nat) (L : List (List UInt8)) (w : World) (hL : Bss w a n L) (hn : n ≤ 100000) (N : Nat) (hN : (joinL L).length = N) (hmax : N ≤ 1000000000) :
    Calls Try.prog 74 #[.slice a n c] w (Fresh N (joinL L) w) := by
  go_enter Try.func74, Try.ntmps74
  go_wp2_with (go_at_call 95; refine (concat_any _ _ _ L _ (hL.ext (by repeat (first | (with_reducible first | exact Ext.refl _ | assumption | apply Ext.alloc | apply Ext.ext | apply Ext.drew | refine Ext.setCell ?_ ?_ _) | (focus (simp [go_sem]; done))))) hn N hN hmax).mono ?_; rintro e w1 ⟨a1, c1, rfl, hO1, hx1⟩)
  go_ret
  exact ⟨_, _, rfl, hO1, hx1⟩

set_option maxRecDepth 100000 in
set_option maxHeartbeats 2000000 in
theorem pad_any (a : Option Addr) (n c : Nat) (l : List UInt8) (k : Nat) (w : World) (h : Sl w a n l) (hn : n ≤ 1000000) (hk1 : 1 ≤ k) (hk : k ≤ 64) (N : Nat) (hN : N = n + (k - n % k) % k) :
    Calls Try.prog 72 #[.slice a n c, .int .i64 k] w (Fresh N (l ++ List.replicate (N - n) 0) w) := by
  have hb := bss1 h 22 (c1 := c)
  have kk0 : (1 : Int) ≤ (k : Int) := by omega
  have kk1 : (k : Int) ≤ 64 := by omega
  have hNb : N < n + k := by
    have := Nat.mod_lt (k - n % k) (show 0 < k by omega)
    omega
  go_enter Try.func72, Try.ntmps72
  go_wp2_with fail
  refine (join_any _ 1 1 [l] _ hb (by omega) n (by rw [joinL1, h.len]) (by omega)).mono ?_
  rintro e w1 ⟨a1, c1, rfl, hO1, hx1⟩
  rw [joinL1] at hO1
  go_wp2_with fail
  go_loopw [5] (fun v5 wr => ∃ (m : Nat) (sa : Option Addr) (sc : Nat), n ≤ m ∧ m ≤ N ∧ v5 = .slice sa m sc ∧ Own wr w.heap.size sa m sc (l ++ List.replicate (m - n) 0) ∧ Ext w wr) (fun v5 _ => match v5 with | .slice _ m _ => N - m | _ => 0)
  case atStart => exact ⟨n, a1, c1, Nat.le_refl _, by omega, rfl, by simpa using hO1.mono (base' := w.heap.size) (by simp), (Ext.of_alloc _ _).trans hx1⟩
  case round =>
    obtain ⟨m, sa, sc, hm0, hm1, rfl, hO, hx⟩ := hrel
    by_cases hlt : m < N
    · have hne := pad_ne n k m hk1 hm0 (by omega)
      have hmod : ((m : Int) % (k : Int) != 0) = true := by rw [bne_iff_ne]; omega
      have hNs : m + 1 - n = (m - n) + 1 := by omega
      clear hne
      have HN := Lib.hid hN
      have HS := Lib.hid hNs
      clear hN hNs
      go_wp2_with (at_builtin; refine wpList_append_by U rfl _ _ rfl w.heap.size sa _ sc _ rfl _ 1 1 _ rfl (hO.ext (by repeat (first | (with_reducible first | exact Ext.refl _ | assumption | apply Ext.alloc | apply Ext.ext | apply Ext.drew | refine Ext.setCell ?_ ?_ _) | (focus (simp [go_sem]; done))))) (sl_new1 _ 0 _) (by omega) (by simp; have := hx.size; omega) ?_; intro sa2 sc2 w2 hO2 hg2 hB2)
      go_roundw
      case rel => exact ⟨m + 1, sa2, sc2, by omega, by omega, rfl, by rw [HS.out, List.replicate_succ', ← List.append_assoc]; exact hO2, Below.trans (b := wr.alloc _) (by repeat (first | (with_reducible first | exact Ext.refl _ | assumption | apply Ext.alloc | apply Ext.ext | apply Ext.drew | refine Ext.setCell ?_ ?_ _) | (focus (simp [go_sem]; done)))) hB2⟩
      case measure => show N - (m + 1) < N - m; omega
    · obtain rfl : m = N := by omega
      have hz := pad_zero n k hk1
      rw [← hN] at hz
      have hmod : ((m : Int) % (k : Int) != 0) = false := by rw [bne_eq_false_iff_eq]; omega
      clear hN hz
      go_wp2
      go_ret
      exact ⟨_, _, rfl, hO, hx⟩
end Go.Proofs.Ythooaeeajeajnaa
