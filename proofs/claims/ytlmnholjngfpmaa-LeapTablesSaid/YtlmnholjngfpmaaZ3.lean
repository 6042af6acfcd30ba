/- Lemmas of this claim, several texts joined. -/
import Derived.Test.YtlmnholjngfpmaaRows
import Derived.Test.YtlmnholjngfpmaaZ1
import Derived.Test.YtlmnholjngfpmaaZ2
set_option linter.unusedVariables false
set_option linter.unusedSimpArgs false
/- The walks of the program's functions on leap seconds: each returns what the plain function says, and only makes memory. -/
namespace Go.Proofs.Ytlmnholjngfpmaa
open Go.RowKit Go.Sec Go.Leap BigFrame

def Row (w : World) (b off : Nat) (L : List (Int × Int)) : Prop :=
  ∀ k, (h : k < L.length) → w.cell? ⟨b, off + k * 2, none⟩ = some (.int .i64 (L[k]).1) ∧ w.cell? ⟨b, off + k * 2 + 1, none⟩ = some (.int .i64 (L[k]).2)
/-- A slice of elements of a table. -/
structure Tb (w : World) (a : Option Addr) (L : List (Int × Int)) : Prop where
  bd : ∀ x ∈ L, -9223372036854775808 ≤ x.1 ∧ x.1 ≤ 9223372036854775807 ∧ -9223372036854775808 ≤ x.2 ∧ x.2 ≤ 9223372036854775807
  max : L.length ≤ 1000000000000000
  row : L.length = 0 ∨ ∃ b off, a = some ⟨b, off, none⟩ ∧ b < w.heap.size ∧ Row w b off L
theorem Tb.ext {w w' : World} {a : Option Addr} {L : List (Int × Int)} (h : Tb w a L) (hx : Ext w w') : Tb w' a L := by
  refine ⟨h.bd, h.max, h.row.imp id ?_⟩
  rintro ⟨b, off, ha, hb, hr⟩
  exact ⟨b, off, ha, Nat.lt_of_lt_of_le hb hx.size, fun k hk => ⟨(hx.cell (p := ⟨b, _, none⟩) hb).trans (hr k hk).1, (hx.cell (p := ⟨b, _, none⟩) hb).trans (hr k hk).2⟩⟩
theorem Tb.at {w : World} {a : Option Addr} {L : List (Int × Int)} (h : Tb w a L) (k : Nat) (hk : k < L.length) :
    ∃ b off, a = some ⟨b, off, none⟩ ∧ b < w.heap.size ∧ w.cell? ⟨b, off + k * 2, none⟩ = some (.int .i64 (L[k]).1) ∧ w.cell? ⟨b, off + k * 2 + 1, none⟩ = some (.int .i64 (L[k]).2) := by
  rcases h.row with h | ⟨b, off, ha, hb, hr⟩
  · omega
  · exact ⟨b, off, ha, hb, (hr k hk).1, (hr k hk).2⟩

theorem ret1 {k : IntKind} {a b : Int} (h : a = b) : Ending.returned (.int k a) = .returned (.int k b) := by rw [h]

theorem i64_and20 (n : Int) : bits .and .i64 n 1048575 = n % 1048576 := by
  have h127 : (BitVec.ofInt 64 1048575).toNat = 2 ^ 20 - 1 := by decide
  have key : (BitVec.ofInt 64 n &&& BitVec.ofInt 64 1048575).toNat = (n % ((2 ^ 64 : Nat) : Int)).toNat % 2 ^ 20 := by
    rw [BitVec.toNat_and, BitVec.toNat_ofInt, h127, Nat.and_two_pow_sub_one_eq_mod]
  show IntKind.i64.wrap ((BitVec.ofInt 64 n &&& BitVec.ofInt 64 1048575).toNat : Nat) = n % 1048576
  rw [key, IntKind.wrap_i64]
  omega
theorem wrap64_eq (n : Int) : wrap64 n = (n + 9223372036854775808) % 18446744073709551616 - 9223372036854775808 := by
  unfold wrap64; rfl

set_option maxHeartbeats 400000 in
theorem second_any (t : Int) (w : World) :
    Calls Try.prog 10 #[.int .i64 t] w fun e w' => e = .returned (.int .i64 (t / 1048576)) ∧ Ext w w' := by
  go_enter Try.func10, Try.ntmps10
  go_wp2
  go_returns
  exact ⟨rfl, Ext.refl _⟩

set_option maxHeartbeats 400000 in
theorem part_any (t : Int) (w : World) :
    Calls Try.prog 14 #[.int .i64 t] w fun e w' => e = .returned (.int .i64 (t % 1048576)) ∧ Ext w w' := by
  have hb := i64_and20 t
  go_enter Try.func14, Try.ntmps14
  go_wp2
  go_returns
  exact ⟨rfl, Ext.refl _⟩

set_option maxHeartbeats 400000 in
theorem in_any (s : Int) (w : World) :
    Calls Try.prog 11 #[.int .i64 s] w fun e w' => e = .returned (.bool (inB s)) ∧ Ext w w' := by
  unfold inB
  by_cases h1 : 0 ≤ s <;> by_cases h2 : s ≤ 274877906944
  all_goals
    go_enter Try.func11, Try.ntmps11
    go_wp2
    go_returns
    exact ⟨by simp [h1, h2], Ext.refl _⟩

set_option maxHeartbeats 1000000 in
theorem offset_any (first : Int) (a : Option Addr) (cap : Nat) (L : List (Int × Int)) (s : Int) (w : World) (hT : Tb w a L) :
    Calls Try.prog 13 #[.agg #[.int .i64 first, .slice a L.length cap], .int .i64 s] w fun e w' => e = .returned (.int .i64 (offs first L s)) ∧ Ext w w' := by
  have hmax := hT.max
  go_enter Try.func13, Try.ntmps13
  go_wp2
  go_loopw [5, 13] (fun v5 v13 wr => ∃ k : Nat, k ≤ L.length ∧ v13 = .int .i64 k ∧ v5 = .int .i64 (offs first (L.take k) s) ∧ Ext w wr) (fun _ v13 _ => L.length - (intOf v13).toNat)
  case atStart => exact ⟨0, Nat.zero_le _, rfl, rfl, (Ext.refl _).alloc _⟩
  case round =>
    obtain ⟨k, hk, rfl, rfl, hB⟩ := hrel
    by_cases hlt : k < L.length
    · obtain ⟨b, off, rfl, hb, hc, hd⟩ := (hT.ext hB).at k hlt
      have HS := Lib.hid (offs_take first L s k hlt)
      by_cases hs : (L[k]).1 ≤ s
      all_goals
        go_wp2
        go_roundw
        case rel => exact ⟨k + 1, by omega, by go_num, by rw [HS.out]; simp [hs], hB.alloc _⟩
        case measure => simp [intOf]; omega
    · have hkk : k = L.length := by omega
      subst hkk
      go_wp2
      go_ret
      exact ⟨by simp, hB⟩

set_option maxHeartbeats 1000000 in
theorem step_any (first : Int) (a : Option Addr) (cap : Nat) (L : List (Int × Int)) (s : Int) (w : World) (hs0 : -1000000000000 ≤ s) (hs1 : s ≤ 1000000000000) (hT : Tb w a L) (hv : vldB first L = true) :
    Calls Try.prog 12 #[.agg #[.int .i64 first, .slice a L.length cap], .int .i64 s] w fun e w' => e = .returned (.int .i64 (stp first L s)) ∧ Ext w w' := by
  have h1 := offs_at hv s
  have h2 := offs_at hv (s + 1)
  clear hv
  unfold stp
  go_enter Try.func12, Try.ntmps12
  go_wp2_with fail
  have hT1 : Tb (w.alloc (.cells #[.int .i64 first, .slice a L.length cap] 25)) a L := hT.ext ((Ext.refl _).alloc _)
  refine wp_region_ext (by kernel_rfl) (by kernel_rfl) ?_
  repeat (go_big_quiet_step ((exact Calls.inExt (offset_any _ _ _ _ _ _ (hT1.ext (Ext.of_ext _ _))))))
  refine wpQuiet_nil ?_
  rintro _ ⟨n, rfl⟩
  go_wp2
  go_returns
  exact ⟨rfl, ((Ext.refl _).alloc _).ext _⟩

end Go.Proofs.Ytlmnholjngfpmaa

/- The walks of the program's functions on leap seconds, part two. -/
namespace Go.Proofs.Ytlmnholjngfpmaa
open Go.RowKit Go.Sec Go.Leap BigFrame

theorem rem_day (x : Int) : ((x.tmod 86400 == 0) = true) ↔ x % 86400 = 0 := by
  rw [beq_iff_eq]
  constructor
  · intro h; have := Int.dvd_of_tmod_eq_zero h; omega
  · intro h; exact Int.tmod_eq_zero_of_dvd (by omega)

theorem bne_iff' {a b : Int} : a = b → (a != b) = false := by simp
theorem bne_val {b c : Int} (a : Int) (h : a = b) : (a != c) = (b != c) := by rw [h]
theorem beq_val {b c : Int} (a : Int) (h : a = b) : (a == c) = (b == c) := by rw [h]
theorem bne_f {a b : Int} (h : (a != b) = false) : a = b := by simpa using h
theorem bne_t {a b : Int} (h : (a != b) = true) : a ≠ b := by simpa using h
section
variable (P X : Int × Int)
theorem ok_y1 (hlb : -86400 ≤ P.1 ∧ P.1 ≤ 137438953472 ∧ -64 ≤ P.2 ∧ P.2 ≤ 164) (hbx : -9223372036854775808 ≤ X.1 ∧ X.1 ≤ 9223372036854775807 ∧ -9223372036854775808 ≤ X.2 ∧ X.2 ≤ 9223372036854775807)
    (h1 : X.1.tmod 86400 = 0) (h2 : P.1 + 172800 ≤ X.1) (h3 : X.1 ≤ 137438953472) (h4 : wrap64 (X.2 - P.2) = 1) : okNext P X = true := by
  have := (rem_day X.1).1 (by rw [beq_iff_eq]; exact h1)
  rw [okNext_iff]
  rw [wrap64_eq] at h4
  omega
theorem ok_y2 (hlb : -86400 ≤ P.1 ∧ P.1 ≤ 137438953472 ∧ -64 ≤ P.2 ∧ P.2 ≤ 164) (hbx : -9223372036854775808 ≤ X.1 ∧ X.1 ≤ 9223372036854775807 ∧ -9223372036854775808 ≤ X.2 ∧ X.2 ≤ 9223372036854775807)
    (h1 : X.1.tmod 86400 = 0) (h2 : ¬ wrap64 (X.2 - P.2) = 1)
    (h3 : (P.1 + 172800 ≤ X.1 ∧ X.1 ≤ 137438953472) ∧ ((wrap64 (X.2 - P.2) != 1) = false ∨ (wrap64 (X.2 - P.2) != -1) = false)) : okNext P X = true := by
  have := (rem_day X.1).1 (by rw [beq_iff_eq]; exact h1)
  rw [okNext_iff]
  have h4 : wrap64 (X.2 - P.2) = -1 := by
    rcases h3.2 with h | h
    · exact absurd (bne_f h) h2
    · exact bne_f h
  rw [wrap64_eq] at h4
  omega
theorem ok_no (h : ¬ (X.1 % 86400 = 0 ∧ P.1 + 172800 ≤ X.1 ∧ X.1 ≤ 137438953472 ∧ (X.2 - P.2 = 1 ∨ X.2 - P.2 = -1))) : okNext P X = false := by
  cases h' : okNext P X with
  | false => rfl
  | true => exact absurd (okNext_iff.1 h') h
theorem ok_n1 (h : ¬ X.1.tmod 86400 = 0) : okNext P X = false := ok_no P X (by
  intro h'; exact h (by have := (rem_day X.1).2 h'.1; rwa [beq_iff_eq] at this))
theorem ok_n2 (h : X.1 < P.1 + 172800) : okNext P X = false := ok_no P X (by omega)
theorem ok_n3 (h : 137438953472 < X.1) : okNext P X = false := ok_no P X (by omega)
theorem ok_n4 (h1 : P.1 + 172800 ≤ X.1) (h2 : X.1 ≤ 137438953472)
    (h3 : (X.1 < P.1 + 172800 ∨ 137438953472 < X.1) ∨ (wrap64 (X.2 - P.2) != 1) = true ∧ (wrap64 (X.2 - P.2) != -1) = true) : okNext P X = false := ok_no P X (by
  rcases h3 with h | h
  · omega
  · have a := bne_t h.1
    have b := bne_t h.2
    rw [wrap64_eq] at a b
    omega)
end

set_option maxHeartbeats 2000000 in
theorem valid_any (first : Int) (a : Option Addr) (cap : Nat) (L : List (Int × Int)) (w : World) (hT : Tb w a L) :
    Calls Try.prog 9 #[.agg #[.int .i64 first, .slice a L.length cap]] w fun e w' => e = .returned (.bool (vldB first L)) ∧ Ext w w' := by
  by_cases hg : 0 ≤ first ∧ first ≤ 100 ∧ L.length ≤ 64
  case neg =>
    have hf : vldB first L = false := by cases h : vldB first L with | false => rfl | true => exact absurd (vldB_iff.1 h) (by intro h; exact hg ⟨h.1, h.2.1, h.2.2.1⟩)
    have HF := Lib.hid hf
    clear hf
    by_cases h1 : 0 ≤ first
    · by_cases h2 : first ≤ 100
      · have h3 : 64 < L.length := by omega
        go_enter Try.func9, Try.ntmps9
        go_wp2
        go_returns
        exact ⟨by rw [HF.out]; rfl, (Ext.refl _).alloc _⟩
      · go_enter Try.func9, Try.ntmps9
        go_wp2
        go_returns
        exact ⟨by rw [HF.out]; rfl, (Ext.refl _).alloc _⟩
    · go_enter Try.func9, Try.ntmps9
      go_wp2
      go_returns
      exact ⟨by rw [HF.out]; rfl, (Ext.refl _).alloc _⟩
  case pos =>
    obtain ⟨hf0, hf1, hl⟩ := hg
    have hv : vldB first L = vldL (-86400, first) L := by simp [vldB, hf0, hf1, hl]
    have HV := Lib.hid hv
    clear hv
    go_enter Try.func9, Try.ntmps9
    go_wp2
    go_loopw [27] (fun v27 wr => ∃ k : Nat, k ≤ L.length ∧ v27 = .int .i64 k ∧ vldL (-86400, first) (L.take k) = true ∧
        wr.cell? ⟨w.heap.size + 1, 0, none⟩ = some (.int .i64 (lastOf (-86400, first) (L.take k)).1) ∧ wr.cell? ⟨w.heap.size + 1, 1, none⟩ = some (.int .i64 (lastOf (-86400, first) (L.take k)).2) ∧
        (∀ o, wr.frozen? ⟨w.heap.size + 1, o, none⟩ = false) ∧ w.heap.size + 1 < wr.heap.size ∧ Ext w wr) (fun v27 _ => L.length - (intOf v27).toNat)
    case atStart => exact ⟨0, Nat.zero_le _, rfl, rfl, by simp [lastOf, go_sem], by simp [lastOf, go_sem], by intro o; simp [go_sem], by simp, ((Ext.refl _).alloc _).alloc _⟩
    case round =>
      obtain ⟨k, hk, rfl, hvk, hc0, hc1, hfz, hz, hB⟩ := hrel
      by_cases hlt : k < L.length
      · obtain ⟨b, off, rfl, hb, hc, hd⟩ := (hT.ext hB).at k hlt
        have hlb := lastOf_bd first ⟨hf0, hf1⟩ (L.take k) hvk (by rw [List.length_take]; omega)
        have HL := Lib.hid (lastOf_take (-86400, first) L k hlt)
        have HT := Lib.hid (vldL_take (-86400, first) L k hlt)
        have HX := Lib.hid (vldL_false (-86400, first) L k hlt)
        have HK := Lib.hid hvk
        clear hvk
        have hbx := Lib.hid (hT.bd L[k] (List.getElem_mem hlt))
        generalize hP : lastOf (-86400, first) (L.take k) = P at *
        generalize hX : L[k] = X at *
        clear hP hX
        go_wp2
        all_goals first
          | (have hok := ok_y1 P X hlb hbx.out (by assumption) (by assumption) (by assumption) (by assumption)
             go_roundw
             case rel =>
               refine ⟨k + 1, by omega, by go_num, by rw [HT.out, HK.out, hok]; rfl, ?_, ?_, ?_, ?_, ?_⟩
               · rw [HL.out]; simp [go_sem, *]
               · rw [HL.out]; simp [go_sem, *]
               · intro o; simp [go_sem, *]
               · simp; omega
               · go_grown
             case measure => simp [intOf]; omega)
          | (have hok := ok_y2 P X hlb hbx.out (by assumption) (by assumption) (by assumption)
             go_roundw
             case rel =>
               refine ⟨k + 1, by omega, by go_num, by rw [HT.out, HK.out, hok]; rfl, ?_, ?_, ?_, ?_, ?_⟩
               · rw [HL.out]; simp [go_sem, *]
               · rw [HL.out]; simp [go_sem, *]
               · intro o; simp [go_sem, *]
               · simp; omega
               · go_grown
             case measure => simp [intOf]; omega)
          | (have hok : okNext P X = false := by
               first
                 | exact ok_n1 P X (by assumption)
                 | exact ok_n2 P X (by assumption)
                 | exact ok_n3 P X (by assumption)
                 | exact ok_n4 P X (by assumption) (by assumption) (by assumption)
             go_returns
             exact ⟨by rw [HV.out, HX.out hok]; rfl, hB.alloc _⟩)
      · have hkk : k = L.length := by omega
        subst hkk
        go_wp2
        go_returns
        rw [List.take_length] at hvk
        exact ⟨by rw [HV.out, hvk]; rfl, hB⟩

end Go.Proofs.Ytlmnholjngfpmaa

/- The walks of the program's functions on leap seconds, part three. -/
namespace Go.Proofs.Ytlmnholjngfpmaa
open Go.RowKit Go.Sec Go.Leap BigFrame

set_option maxHeartbeats 1000000 in
theorem check_any (first : Int) (a : Option Addr) (cap : Nat) (L : List (Int × Int)) (s : Int) (w : World) (hT : Tb w a L) :
    Calls Try.prog 17 #[.agg #[.int .i64 first, .slice a L.length cap], .int .i64 s] w fun e w' => e = .returned (.int .i64 (chk first L s)) ∧ Ext w w' := by
  rcases chk_cases first L s with ⟨hv, hc⟩ | ⟨hv, hi, hc⟩ | ⟨hv, hi, hc⟩
  all_goals
    have HC := Lib.hid hc
    clear hc
    go_enter Try.func17, Try.ntmps17
    go_wp2_with (first
      | (go_at_call 9; refine (valid_any _ _ _ _ _ (hT.ext (by repeat (first | (with_reducible first | exact Ext.refl _ | assumption | apply Ext.alloc | apply Ext.ext | apply Ext.drew | refine Ext.setCell ?_ ?_ _) | (focus (simp [go_sem]; done)))))).mono ?_; rintro e w1 ⟨rfl, hxq⟩; obtain ⟨xq, rfl⟩ := hxq.out; clear hxq)
      | (go_at_call 11; refine (in_any _ _).mono ?_; rintro e w1 ⟨rfl, hxq⟩; obtain ⟨xq, rfl⟩ := hxq.out; clear hxq))
    go_returns
    exact ⟨by rw [HC.out]; rfl, (by repeat (first | (with_reducible first | exact Ext.refl _ | assumption | apply Ext.alloc | apply Ext.ext | apply Ext.drew | refine Ext.setCell ?_ ?_ _) | (focus (simp [go_sem]; done))))⟩

theorem in_of {s : Int} (h : inB s = true) : 0 ≤ s ∧ s ≤ 274877906944 := inB_iff.1 h

set_option maxHeartbeats 2000000 in
theorem TAI_any (first : Int) (a : Option Addr) (cap : Nat) (L : List (Int × Int)) (s : Int) (lp : Bool) (tk : Int) (w : World) (hT : Tb w a L) :
    Calls Try.prog 15 #[.agg #[.int .i64 first, .slice a L.length cap], .agg #[.int .i64 s, .bool lp, .int .i64 tk]] w fun e w' => e = .returned (.tuple #[.int .i64 (taiP first L s lp tk).1, .int .i64 (taiP first L s lp tk).2]) ∧ Ext w w' := by
  rcases chk_cases first L s with ⟨hv, hc⟩ | ⟨hv, hi, hc⟩ | ⟨hv, hi, hc⟩
  case inr.inr =>
    have hi' := in_of hi
    have ho := offs_at hv s
    have hc' : (chk first L s != 0) = _ := bne_val (chk first L s) hc
    simp only [Int.reduceBNe] at hc'
    by_cases ht : tk < 0
    · have HR := Lib.hid (show taiP first L s lp tk = (0, 4) by simp [taiP, hc, ht])
      clear hc
      go_enter Try.func15, Try.ntmps15
      go_wp2_with (first
        | (go_at_call 17; refine (check_any _ _ _ _ _ _ (hT.ext (by repeat (first | (with_reducible first | exact Ext.refl _ | assumption | apply Ext.alloc | apply Ext.ext | apply Ext.drew | refine Ext.setCell ?_ ?_ _) | (focus (simp [go_sem]; done)))))).mono ?_; rintro e w1 ⟨rfl, hxq⟩; obtain ⟨xq, rfl⟩ := hxq.out; clear hxq))
      go_returns
      exact ⟨by rw [HR.out]; rfl, (by repeat (first | (with_reducible first | exact Ext.refl _ | assumption | apply Ext.alloc | apply Ext.ext | apply Ext.drew | refine Ext.setCell ?_ ?_ _) | (focus (simp [go_sem]; done))))⟩
    by_cases ht2 : tk < 1048576
    case neg =>
      have HR := Lib.hid (show taiP first L s lp tk = (0, 4) by simp [taiP, hc, Int.not_lt.1 ht2])
      clear hc
      go_enter Try.func15, Try.ntmps15
      go_wp2_with (first
        | (go_at_call 17; refine (check_any _ _ _ _ _ _ (hT.ext (by repeat (first | (with_reducible first | exact Ext.refl _ | assumption | apply Ext.alloc | apply Ext.ext | apply Ext.drew | refine Ext.setCell ?_ ?_ _) | (focus (simp [go_sem]; done)))))).mono ?_; rintro e w1 ⟨rfl, hxq⟩; obtain ⟨xq, rfl⟩ := hxq.out; clear hxq))
      go_returns
      exact ⟨by rw [HR.out]; rfl, (by repeat (first | (with_reducible first | exact Ext.refl _ | assumption | apply Ext.alloc | apply Ext.ext | apply Ext.drew | refine Ext.setCell ?_ ?_ _) | (focus (simp [go_sem]; done))))⟩
    case pos =>
      have hd := stp_small first L (vldB_iff.1 hv).2.2.2 s
      have ht1 := Int.not_lt.1 ht
      rcases hd with hd | hd | hd <;> cases lp
      · have HR := Lib.hid (show taiP first L s false tk = (0, 10) by simp [taiP, hc, hd, ht, Int.not_le.2 ht2])
        have hd1 : (stp first L s == -1) = _ := beq_val (stp first L s) hd
        have hd2 : (stp first L s != 1) = _ := bne_val (stp first L s) hd
        simp only [Int.reduceBNe, Int.reduceBEq] at hd1 hd2
        clear hc hd
        go_enter Try.func15, Try.ntmps15
        go_wp2_with (first
          | (go_at_call 17; refine (check_any _ _ _ _ _ _ (hT.ext (by repeat (first | (with_reducible first | exact Ext.refl _ | assumption | apply Ext.alloc | apply Ext.ext | apply Ext.drew | refine Ext.setCell ?_ ?_ _) | (focus (simp [go_sem]; done)))))).mono ?_; rintro e w1 ⟨rfl, hxq⟩; obtain ⟨xq, rfl⟩ := hxq.out; clear hxq))
        (refine wp_region_ext (by kernel_rfl) (by kernel_rfl) ?_; (repeat (go_big_quiet_step (((go_at_call 13; exact Calls.inExt (offset_any _ _ _ _ _ _ (hT.ext (by repeat (first | (with_reducible first | exact Ext.refl _ | assumption | apply Ext.alloc | apply Ext.ext | apply Ext.drew | refine Ext.setCell ?_ ?_ _) | (focus (simp [go_sem]; done))))))))))); refine wpQuiet_nil ?_; rintro _ ⟨xq, rfl⟩)
        go_wp2_with (first
          | (go_at_call 12; refine (step_any _ _ _ _ _ _ (by omega) (by omega) (hT.ext (by repeat (first | (with_reducible first | exact Ext.refl _ | assumption | apply Ext.alloc | apply Ext.ext | apply Ext.drew | refine Ext.setCell ?_ ?_ _) | (focus (simp [go_sem]; done))))) hv).mono ?_; rintro e w1 ⟨rfl, hxq⟩; obtain ⟨xq, rfl⟩ := hxq.out; clear hxq))
        go_returns
        exact ⟨by rw [HR.out]; rfl, (by repeat (first | (with_reducible first | exact Ext.refl _ | assumption | apply Ext.alloc | apply Ext.ext | apply Ext.drew | refine Ext.setCell ?_ ?_ _) | (focus (simp [go_sem]; done))))⟩
      · have HR := Lib.hid (show taiP first L s true tk = (0, 10) by simp [taiP, hc, hd, ht, Int.not_le.2 ht2])
        have hd1 : (stp first L s == -1) = _ := beq_val (stp first L s) hd
        have hd2 : (stp first L s != 1) = _ := bne_val (stp first L s) hd
        simp only [Int.reduceBNe, Int.reduceBEq] at hd1 hd2
        clear hc hd
        go_enter Try.func15, Try.ntmps15
        go_wp2_with (first
          | (go_at_call 17; refine (check_any _ _ _ _ _ _ (hT.ext (by repeat (first | (with_reducible first | exact Ext.refl _ | assumption | apply Ext.alloc | apply Ext.ext | apply Ext.drew | refine Ext.setCell ?_ ?_ _) | (focus (simp [go_sem]; done)))))).mono ?_; rintro e w1 ⟨rfl, hxq⟩; obtain ⟨xq, rfl⟩ := hxq.out; clear hxq))
        (refine wp_region_ext (by kernel_rfl) (by kernel_rfl) ?_; (repeat (go_big_quiet_step (((go_at_call 13; exact Calls.inExt (offset_any _ _ _ _ _ _ (hT.ext (by repeat (first | (with_reducible first | exact Ext.refl _ | assumption | apply Ext.alloc | apply Ext.ext | apply Ext.drew | refine Ext.setCell ?_ ?_ _) | (focus (simp [go_sem]; done))))))))))); refine wpQuiet_nil ?_; rintro _ ⟨xq, rfl⟩)
        go_wp2_with (first
          | (go_at_call 12; refine (step_any _ _ _ _ _ _ (by omega) (by omega) (hT.ext (by repeat (first | (with_reducible first | exact Ext.refl _ | assumption | apply Ext.alloc | apply Ext.ext | apply Ext.drew | refine Ext.setCell ?_ ?_ _) | (focus (simp [go_sem]; done))))) hv).mono ?_; rintro e w1 ⟨rfl, hxq⟩; obtain ⟨xq, rfl⟩ := hxq.out; clear hxq))
        go_returns
        exact ⟨by rw [HR.out]; rfl, (by repeat (first | (with_reducible first | exact Ext.refl _ | assumption | apply Ext.alloc | apply Ext.ext | apply Ext.drew | refine Ext.setCell ?_ ?_ _) | (focus (simp [go_sem]; done))))⟩
      · have HR := Lib.hid (show taiP first L s false tk = ((s + offs first L s) * 1048576 + tk, 0) by simp [taiP, hc, hd, ht, Int.not_le.2 ht2])
        have hd1 : (stp first L s == -1) = _ := beq_val (stp first L s) hd
        have hd2 : (stp first L s != 1) = _ := bne_val (stp first L s) hd
        simp only [Int.reduceBNe, Int.reduceBEq] at hd1 hd2
        clear hc hd
        go_enter Try.func15, Try.ntmps15
        go_wp2_with (first
          | (go_at_call 17; refine (check_any _ _ _ _ _ _ (hT.ext (by repeat (first | (with_reducible first | exact Ext.refl _ | assumption | apply Ext.alloc | apply Ext.ext | apply Ext.drew | refine Ext.setCell ?_ ?_ _) | (focus (simp [go_sem]; done)))))).mono ?_; rintro e w1 ⟨rfl, hxq⟩; obtain ⟨xq, rfl⟩ := hxq.out; clear hxq))
        (refine wp_region_ext (by kernel_rfl) (by kernel_rfl) ?_; (repeat (go_big_quiet_step (((go_at_call 13; exact Calls.inExt (offset_any _ _ _ _ _ _ (hT.ext (by repeat (first | (with_reducible first | exact Ext.refl _ | assumption | apply Ext.alloc | apply Ext.ext | apply Ext.drew | refine Ext.setCell ?_ ?_ _) | (focus (simp [go_sem]; done))))))))))); refine wpQuiet_nil ?_; rintro _ ⟨xq, rfl⟩)
        go_wp2_with (first
          | (go_at_call 12; refine (step_any _ _ _ _ _ _ (by omega) (by omega) (hT.ext (by repeat (first | (with_reducible first | exact Ext.refl _ | assumption | apply Ext.alloc | apply Ext.ext | apply Ext.drew | refine Ext.setCell ?_ ?_ _) | (focus (simp [go_sem]; done))))) hv).mono ?_; rintro e w1 ⟨rfl, hxq⟩; obtain ⟨xq, rfl⟩ := hxq.out; clear hxq))
        go_returns
        exact ⟨by rw [HR.out]; rfl, (by repeat (first | (with_reducible first | exact Ext.refl _ | assumption | apply Ext.alloc | apply Ext.ext | apply Ext.drew | refine Ext.setCell ?_ ?_ _) | (focus (simp [go_sem]; done))))⟩
      · have HR := Lib.hid (show taiP first L s true tk = (0, 10) by simp [taiP, hc, hd, ht, Int.not_le.2 ht2])
        have hd1 : (stp first L s == -1) = _ := beq_val (stp first L s) hd
        have hd2 : (stp first L s != 1) = _ := bne_val (stp first L s) hd
        simp only [Int.reduceBNe, Int.reduceBEq] at hd1 hd2
        clear hc hd
        go_enter Try.func15, Try.ntmps15
        go_wp2_with (first
          | (go_at_call 17; refine (check_any _ _ _ _ _ _ (hT.ext (by repeat (first | (with_reducible first | exact Ext.refl _ | assumption | apply Ext.alloc | apply Ext.ext | apply Ext.drew | refine Ext.setCell ?_ ?_ _) | (focus (simp [go_sem]; done)))))).mono ?_; rintro e w1 ⟨rfl, hxq⟩; obtain ⟨xq, rfl⟩ := hxq.out; clear hxq))
        (refine wp_region_ext (by kernel_rfl) (by kernel_rfl) ?_; (repeat (go_big_quiet_step (((go_at_call 13; exact Calls.inExt (offset_any _ _ _ _ _ _ (hT.ext (by repeat (first | (with_reducible first | exact Ext.refl _ | assumption | apply Ext.alloc | apply Ext.ext | apply Ext.drew | refine Ext.setCell ?_ ?_ _) | (focus (simp [go_sem]; done))))))))))); refine wpQuiet_nil ?_; rintro _ ⟨xq, rfl⟩)
        go_wp2_with (first
          | (go_at_call 12; refine (step_any _ _ _ _ _ _ (by omega) (by omega) (hT.ext (by repeat (first | (with_reducible first | exact Ext.refl _ | assumption | apply Ext.alloc | apply Ext.ext | apply Ext.drew | refine Ext.setCell ?_ ?_ _) | (focus (simp [go_sem]; done))))) hv).mono ?_; rintro e w1 ⟨rfl, hxq⟩; obtain ⟨xq, rfl⟩ := hxq.out; clear hxq))
        go_returns
        exact ⟨by rw [HR.out]; rfl, (by repeat (first | (with_reducible first | exact Ext.refl _ | assumption | apply Ext.alloc | apply Ext.ext | apply Ext.drew | refine Ext.setCell ?_ ?_ _) | (focus (simp [go_sem]; done))))⟩
      · have HR := Lib.hid (show taiP first L s false tk = ((s + offs first L s) * 1048576 + tk, 0) by simp [taiP, hc, hd, ht, Int.not_le.2 ht2])
        have hd1 : (stp first L s == -1) = _ := beq_val (stp first L s) hd
        have hd2 : (stp first L s != 1) = _ := bne_val (stp first L s) hd
        simp only [Int.reduceBNe, Int.reduceBEq] at hd1 hd2
        clear hc hd
        go_enter Try.func15, Try.ntmps15
        go_wp2_with (first
          | (go_at_call 17; refine (check_any _ _ _ _ _ _ (hT.ext (by repeat (first | (with_reducible first | exact Ext.refl _ | assumption | apply Ext.alloc | apply Ext.ext | apply Ext.drew | refine Ext.setCell ?_ ?_ _) | (focus (simp [go_sem]; done)))))).mono ?_; rintro e w1 ⟨rfl, hxq⟩; obtain ⟨xq, rfl⟩ := hxq.out; clear hxq))
        (refine wp_region_ext (by kernel_rfl) (by kernel_rfl) ?_; (repeat (go_big_quiet_step (((go_at_call 13; exact Calls.inExt (offset_any _ _ _ _ _ _ (hT.ext (by repeat (first | (with_reducible first | exact Ext.refl _ | assumption | apply Ext.alloc | apply Ext.ext | apply Ext.drew | refine Ext.setCell ?_ ?_ _) | (focus (simp [go_sem]; done))))))))))); refine wpQuiet_nil ?_; rintro _ ⟨xq, rfl⟩)
        go_wp2_with (first
          | (go_at_call 12; refine (step_any _ _ _ _ _ _ (by omega) (by omega) (hT.ext (by repeat (first | (with_reducible first | exact Ext.refl _ | assumption | apply Ext.alloc | apply Ext.ext | apply Ext.drew | refine Ext.setCell ?_ ?_ _) | (focus (simp [go_sem]; done))))) hv).mono ?_; rintro e w1 ⟨rfl, hxq⟩; obtain ⟨xq, rfl⟩ := hxq.out; clear hxq))
        go_returns
        exact ⟨by rw [HR.out]; rfl, (by repeat (first | (with_reducible first | exact Ext.refl _ | assumption | apply Ext.alloc | apply Ext.ext | apply Ext.drew | refine Ext.setCell ?_ ?_ _) | (focus (simp [go_sem]; done))))⟩
      · have HR := Lib.hid (show taiP first L s true tk = ((s + offs first L s + 1) * 1048576 + tk, 0) by simp [taiP, hc, hd, ht, Int.not_le.2 ht2])
        have hd1 : (stp first L s == -1) = _ := beq_val (stp first L s) hd
        have hd2 : (stp first L s != 1) = _ := bne_val (stp first L s) hd
        simp only [Int.reduceBNe, Int.reduceBEq] at hd1 hd2
        clear hc hd
        go_enter Try.func15, Try.ntmps15
        go_wp2_with (first
          | (go_at_call 17; refine (check_any _ _ _ _ _ _ (hT.ext (by repeat (first | (with_reducible first | exact Ext.refl _ | assumption | apply Ext.alloc | apply Ext.ext | apply Ext.drew | refine Ext.setCell ?_ ?_ _) | (focus (simp [go_sem]; done)))))).mono ?_; rintro e w1 ⟨rfl, hxq⟩; obtain ⟨xq, rfl⟩ := hxq.out; clear hxq))
        (refine wp_region_ext (by kernel_rfl) (by kernel_rfl) ?_; (repeat (go_big_quiet_step (((go_at_call 13; exact Calls.inExt (offset_any _ _ _ _ _ _ (hT.ext (by repeat (first | (with_reducible first | exact Ext.refl _ | assumption | apply Ext.alloc | apply Ext.ext | apply Ext.drew | refine Ext.setCell ?_ ?_ _) | (focus (simp [go_sem]; done))))))))))); refine wpQuiet_nil ?_; rintro _ ⟨xq, rfl⟩)
        go_wp2_with (first
          | (go_at_call 12; refine (step_any _ _ _ _ _ _ (by omega) (by omega) (hT.ext (by repeat (first | (with_reducible first | exact Ext.refl _ | assumption | apply Ext.alloc | apply Ext.ext | apply Ext.drew | refine Ext.setCell ?_ ?_ _) | (focus (simp [go_sem]; done))))) hv).mono ?_; rintro e w1 ⟨rfl, hxq⟩; obtain ⟨xq, rfl⟩ := hxq.out; clear hxq))
        go_returns
        exact ⟨by rw [HR.out]; rfl, (by repeat (first | (with_reducible first | exact Ext.refl _ | assumption | apply Ext.alloc | apply Ext.ext | apply Ext.drew | refine Ext.setCell ?_ ?_ _) | (focus (simp [go_sem]; done))))⟩
  all_goals
    have hc' : (chk first L s != 0) = _ := bne_val (chk first L s) hc
    simp only [Int.reduceBNe] at hc'
    have HR := Lib.hid (show taiP first L s lp tk = (0, chk first L s) by simp [taiP, hc])
    clear hc
    go_enter Try.func15, Try.ntmps15
    go_wp2_with (first
      | (go_at_call 17; refine (check_any _ _ _ _ _ _ (hT.ext (by repeat (first | (with_reducible first | exact Ext.refl _ | assumption | apply Ext.alloc | apply Ext.ext | apply Ext.drew | refine Ext.setCell ?_ ?_ _) | (focus (simp [go_sem]; done)))))).mono ?_; rintro e w1 ⟨rfl, hxq⟩; obtain ⟨xq, rfl⟩ := hxq.out; clear hxq))
    go_returns
    exact ⟨by rw [HR.out]; rfl, (by repeat (first | (with_reducible first | exact Ext.refl _ | assumption | apply Ext.alloc | apply Ext.ext | apply Ext.drew | refine Ext.setCell ?_ ?_ _) | (focus (simp [go_sem]; done))))⟩

end Go.Proofs.Ytlmnholjngfpmaa

/- The walks of the program's functions on leap seconds, part four: UTC, Number. -/
namespace Go.Proofs.Ytlmnholjngfpmaa
open Go.RowKit Go.Sec Go.Leap BigFrame

theorem inB_false {s : Int} (h : inB s = false) : ¬ (0 ≤ s ∧ s ≤ 274877906944) := fun h' => by rw [inB_iff.2 h'] at h; cases h

set_option maxHeartbeats 4000000 in
theorem UTC_any (first : Int) (a : Option Addr) (cap : Nat) (L : List (Int × Int)) (t : Int) (w : World) (hT : Tb w a L) (ht0 : -8796093022208 ≤ t / 1048576) (ht1 : t / 1048576 ≤ 8796093022207) :
    Calls Try.prog 7 #[.agg #[.int .i64 first, .slice a L.length cap], .int .i64 t] w fun e w' => e = .returned (.tuple #[.agg #[.int .i64 (utcP first L t).1.1, .bool (utcP first L t).1.2.1, .int .i64 (utcP first L t).1.2.2], .int .i64 (utcP first L t).2]) ∧ Ext w w' := by
  cases hv : vldB first L
  case false =>
    have HR := Lib.hid (utc_bad first L hv t)
    go_enter Try.func7, Try.ntmps7
    go_wp2_with (first
      | (go_at_call 9; refine (valid_any _ _ _ _ _ (hT.ext (by repeat (first | (with_reducible first | exact Ext.refl _ | assumption | apply Ext.alloc | apply Ext.ext | apply Ext.drew | refine Ext.setCell ?_ ?_ _) | (focus (simp [go_sem]; done)))))).mono ?_; rintro e w1 ⟨rfl, hxq⟩; obtain ⟨xq, rfl⟩ := hxq.out; clear hxq))
    go_returns
    exact ⟨by rw [HR.out], (by repeat (first | (with_reducible first | exact Ext.refl _ | assumption | apply Ext.alloc | apply Ext.ext | apply Ext.drew | refine Ext.setCell ?_ ?_ _) | (focus (simp [go_sem]; done))))⟩
  case true =>
    have hfb := (vldB_iff.1 hv).1
    have hfb2 := (vldB_iff.1 hv).2.1
    have hmax := hT.max
    go_enter Try.func7, Try.ntmps7
    go_wp2_with (first
      | (go_at_call 9; refine (valid_any _ _ _ _ _ (hT.ext (by repeat (first | (with_reducible first | exact Ext.refl _ | assumption | apply Ext.alloc | apply Ext.ext | apply Ext.drew | refine Ext.setCell ?_ ?_ _) | (focus (simp [go_sem]; done)))))).mono ?_; rintro e w1 ⟨rfl, hxq⟩; obtain ⟨xq, rfl⟩ := hxq.out; clear hxq))
    (refine wp_region_ext (by kernel_rfl) (by kernel_rfl) ?_; (repeat (go_big_quiet_step (((go_at_call 10; exact Calls.inExt (second_any _ _)))))); refine wpQuiet_nil ?_; rintro _ ⟨xq, rfl⟩)
    go_wp2_with fail
    generalize hW : ((((w.alloc _).alloc _).ext _).ext _ : World) = W
    have hWx : Ext w W := by rw [← hW]; exact (by repeat (first | (with_reducible first | exact Ext.refl _ | assumption | apply Ext.alloc | apply Ext.ext | apply Ext.drew | refine Ext.setCell ?_ ?_ _) | (focus (simp [go_sem]; done))))
    have hbox0 : W.cell? ⟨w.heap.size, 0, none⟩ = some (.int .i64 first) := by rw [← hW]; simp [go_sem]
    have hbox1 : W.cell? ⟨w.heap.size, 1, none⟩ = some (.slice a L.length cap) := by rw [← hW]; simp [go_sem]
    have hr0 : W.cell? ⟨w.heap.size + 1, 0, none⟩ = some (.int .i64 0) := by rw [← hW]; simp [go_sem]
    have hr1 : W.cell? ⟨w.heap.size + 1, 1, none⟩ = some (.bool false) := by rw [← hW]; simp [go_sem]
    have hr2 : W.cell? ⟨w.heap.size + 1, 2, none⟩ = some (.int .i64 0) := by rw [← hW]; simp [go_sem]
    have hrf : ∀ o, W.frozen? ⟨w.heap.size + 1, o, none⟩ = false := by rw [← hW]; intro o; simp [go_sem]
    have hz : BlkLt w.heap.size W := by rw [← hW]; infer_instance
    have hz' : BlkLt (w.heap.size + 1) W := by rw [← hW]; infer_instance
    clear hW
    go_loopw [6, 23] (fun v6 v23 wr => ∃ k : Nat, k ≤ L.length ∧ v23 = .int .i64 k ∧ v6 = .int .i64 (sfold (t / 1048576) (t / 1048576 - first) (L.take k)) ∧ ∃ x, wr = W.ext x) (fun _ v23 _ => L.length - (intOf v23).toNat)
    case atStart => exact ⟨0, Nat.zero_le _, rfl, rfl, Ext.out (Ext.refl _)⟩
    case round =>
      obtain ⟨k, hk, rfl, rfl, x, rfl⟩ := hrel
      by_cases hlt : k < L.length
      · obtain ⟨b, off, rfl, hb, hc, hd⟩ := (hT.ext hWx).at k hlt
        haveI : BlkLt b W := ⟨hb⟩
        have hbd := elem_at hv k hlt
        have HS := Lib.hid (sfold_take (t / 1048576) (t / 1048576 - first) L k hlt)
        by_cases hs : (L[k]).1 ≤ t / 1048576 - (L[k]).2
        all_goals
          go_wp2_with fail
          (refine wp_region_ext (by kernel_rfl) (by kernel_rfl) ?_; (repeat (go_big_quiet_step (((go_at_call 10; exact Calls.inExt (second_any _ _)))))); refine wpQuiet_nil ?_; rintro _ ⟨xq, rfl⟩)
          go_wp2_with fail
          go_roundw
          case rel => exact ⟨k + 1, by omega, by go_num, by rw [HS.out]; first | rw [if_pos (by omega)] | rw [if_neg (by omega)], Ext.out (by repeat (first | (with_reducible first | exact Ext.refl _ | assumption | apply Ext.alloc | apply Ext.ext | apply Ext.drew | refine Ext.setCell ?_ ?_ _) | (focus (simp [go_sem]; done))))⟩
          case measure => simp [intOf]; omega
      · have hkk : k = L.length := by omega
        subst hkk
        rw [List.take_length]
        have hsb := sfold_bd first L hv (t / 1048576) ht0 ht1 _ rfl
        generalize hs : sfold (t / 1048576) (t / 1048576 - first) L = s at *
        have hso := offs_at hv (s - 1)
        have H1 := Lib.hid (utc_leap first L hv t s hs.symm)
        have H2 := Lib.hid (utc_plain first L hv t s hs.symm)
        clear hs
        cases h1 : inB (s - 1)
        · have hin := inB_false h1
          cases h4 : inB s
          · have h4' := inB_false h4
            have HR := Lib.hid ((H2.out (fun h => by have := (H1.out h).1; rw [h1] at this; cases this)).2 h4)
            clear H1 H2
            go_wp2_with fail
            (refine wp_region_ext (by kernel_rfl) (by kernel_rfl) ?_; (repeat (go_big_quiet_step ((first | (go_at_call 11; exact Calls.inExt (Calls.val (in_any _ _) (congrArg Value.bool h1))) | (go_at_call 12; exact Calls.inExt (step_any _ _ _ _ _ _ (by omega) (by omega) (hT.ext (by repeat (first | (with_reducible first | exact Ext.refl _ | assumption | apply Ext.alloc | apply Ext.ext | apply Ext.drew | refine Ext.setCell ?_ ?_ _) | (focus (simp [go_sem]; done))))) hv)) | (go_at_call 13; exact Calls.inExt (offset_any _ _ _ _ _ _ (hT.ext (by repeat (first | (with_reducible first | exact Ext.refl _ | assumption | apply Ext.alloc | apply Ext.ext | apply Ext.drew | refine Ext.setCell ?_ ?_ _) | (focus (simp [go_sem]; done))))))) | (go_at_call 10; exact Calls.inExt (second_any _ _)))))); refine wpQuiet_nil ?_; rintro _ ⟨xq, rfl⟩)
            go_wp2_with (first | (go_at_call 11; refine (in_any _ _).mono ?_; rintro e w1 ⟨rfl, hxq⟩; obtain ⟨xq, rfl⟩ := hxq.out; clear hxq) | (go_at_call 14; refine (part_any _ _).mono ?_; rintro e w1 ⟨rfl, hxq⟩; obtain ⟨xq, rfl⟩ := hxq.out; clear hxq))
            refine bodyPost_ret (v := .tuple #[.agg #[.int .i64 0, .bool false, .int .i64 0], .int .i64 9]) (by simp [results, Try.results7, go_sem, hr0, hr1, hr2]) rfl ?_
            exact ⟨by rw [HR.out], (by repeat (first | (with_reducible first | exact Ext.refl _ | assumption | apply Ext.alloc | apply Ext.ext | apply Ext.drew | refine Ext.setCell ?_ ?_ _) | (focus (simp [go_sem]; done))))⟩
          ·
            have HR := Lib.hid ((H2.out (fun h => by have := (H1.out h).1; rw [h1] at this; cases this)).1 h4)
            clear H1 H2
            go_wp2_with fail
            (refine wp_region_ext (by kernel_rfl) (by kernel_rfl) ?_; (repeat (go_big_quiet_step ((first | (go_at_call 11; exact Calls.inExt (Calls.val (in_any _ _) (congrArg Value.bool h1))) | (go_at_call 12; exact Calls.inExt (step_any _ _ _ _ _ _ (by omega) (by omega) (hT.ext (by repeat (first | (with_reducible first | exact Ext.refl _ | assumption | apply Ext.alloc | apply Ext.ext | apply Ext.drew | refine Ext.setCell ?_ ?_ _) | (focus (simp [go_sem]; done))))) hv)) | (go_at_call 13; exact Calls.inExt (offset_any _ _ _ _ _ _ (hT.ext (by repeat (first | (with_reducible first | exact Ext.refl _ | assumption | apply Ext.alloc | apply Ext.ext | apply Ext.drew | refine Ext.setCell ?_ ?_ _) | (focus (simp [go_sem]; done))))))) | (go_at_call 10; exact Calls.inExt (second_any _ _)))))); refine wpQuiet_nil ?_; rintro _ ⟨xq, rfl⟩)
            go_wp2_with (first | (go_at_call 11; refine (in_any _ _).mono ?_; rintro e w1 ⟨rfl, hxq⟩; obtain ⟨xq, rfl⟩ := hxq.out; clear hxq) | (go_at_call 14; refine (part_any _ _).mono ?_; rintro e w1 ⟨rfl, hxq⟩; obtain ⟨xq, rfl⟩ := hxq.out; clear hxq))
            refine bodyPost_ret (v := .tuple #[.agg #[.int .i64 s, .bool false, .int .i64 (t % 1048576)], .int .i64 0]) (by simp [results, Try.results7, go_sem, hr0, hr1, hr2]) rfl ?_
            exact ⟨by rw [HR.out], (by repeat (first | (with_reducible first | exact Ext.refl _ | assumption | apply Ext.alloc | apply Ext.ext | apply Ext.drew | refine Ext.setCell ?_ ?_ _) | (focus (simp [go_sem]; done))))⟩
        · have hin := in_of h1
          cases h2 : (stp first L (s - 1) == 1)
          ·
            cases h4 : inB s
            · have h4' := inB_false h4
              have HR := Lib.hid ((H2.out (fun h => by rw [beq_eq_false_iff_ne] at h2; exact h2 h.1)).2 h4)
              clear H1 H2
              go_wp2_with fail
              (refine wp_region_ext (by kernel_rfl) (by kernel_rfl) ?_; (repeat (go_big_quiet_step ((first | (go_at_call 11; exact Calls.inExt (Calls.val (in_any _ _) (congrArg Value.bool h1))) | (go_at_call 12; exact Calls.inExt (step_any _ _ _ _ _ _ (by omega) (by omega) (hT.ext (by repeat (first | (with_reducible first | exact Ext.refl _ | assumption | apply Ext.alloc | apply Ext.ext | apply Ext.drew | refine Ext.setCell ?_ ?_ _) | (focus (simp [go_sem]; done))))) hv)) | (go_at_call 13; exact Calls.inExt (offset_any _ _ _ _ _ _ (hT.ext (by repeat (first | (with_reducible first | exact Ext.refl _ | assumption | apply Ext.alloc | apply Ext.ext | apply Ext.drew | refine Ext.setCell ?_ ?_ _) | (focus (simp [go_sem]; done))))))) | (go_at_call 10; exact Calls.inExt (second_any _ _)))))); refine wpQuiet_nil ?_; rintro _ ⟨xq, rfl⟩)
              go_wp2_with (first | (go_at_call 11; refine (in_any _ _).mono ?_; rintro e w1 ⟨rfl, hxq⟩; obtain ⟨xq, rfl⟩ := hxq.out; clear hxq) | (go_at_call 14; refine (part_any _ _).mono ?_; rintro e w1 ⟨rfl, hxq⟩; obtain ⟨xq, rfl⟩ := hxq.out; clear hxq))
              refine bodyPost_ret (v := .tuple #[.agg #[.int .i64 0, .bool false, .int .i64 0], .int .i64 9]) (by simp [results, Try.results7, go_sem, hr0, hr1, hr2]) rfl ?_
              exact ⟨by rw [HR.out], (by repeat (first | (with_reducible first | exact Ext.refl _ | assumption | apply Ext.alloc | apply Ext.ext | apply Ext.drew | refine Ext.setCell ?_ ?_ _) | (focus (simp [go_sem]; done))))⟩
            ·
              have HR := Lib.hid ((H2.out (fun h => by rw [beq_eq_false_iff_ne] at h2; exact h2 h.1)).1 h4)
              clear H1 H2
              go_wp2_with fail
              (refine wp_region_ext (by kernel_rfl) (by kernel_rfl) ?_; (repeat (go_big_quiet_step ((first | (go_at_call 11; exact Calls.inExt (Calls.val (in_any _ _) (congrArg Value.bool h1))) | (go_at_call 12; exact Calls.inExt (step_any _ _ _ _ _ _ (by omega) (by omega) (hT.ext (by repeat (first | (with_reducible first | exact Ext.refl _ | assumption | apply Ext.alloc | apply Ext.ext | apply Ext.drew | refine Ext.setCell ?_ ?_ _) | (focus (simp [go_sem]; done))))) hv)) | (go_at_call 13; exact Calls.inExt (offset_any _ _ _ _ _ _ (hT.ext (by repeat (first | (with_reducible first | exact Ext.refl _ | assumption | apply Ext.alloc | apply Ext.ext | apply Ext.drew | refine Ext.setCell ?_ ?_ _) | (focus (simp [go_sem]; done))))))) | (go_at_call 10; exact Calls.inExt (second_any _ _)))))); refine wpQuiet_nil ?_; rintro _ ⟨xq, rfl⟩)
              go_wp2_with (first | (go_at_call 11; refine (in_any _ _).mono ?_; rintro e w1 ⟨rfl, hxq⟩; obtain ⟨xq, rfl⟩ := hxq.out; clear hxq) | (go_at_call 14; refine (part_any _ _).mono ?_; rintro e w1 ⟨rfl, hxq⟩; obtain ⟨xq, rfl⟩ := hxq.out; clear hxq))
              refine bodyPost_ret (v := .tuple #[.agg #[.int .i64 s, .bool false, .int .i64 (t % 1048576)], .int .i64 0]) (by simp [results, Try.results7, go_sem, hr0, hr1, hr2]) rfl ?_
              exact ⟨by rw [HR.out], (by repeat (first | (with_reducible first | exact Ext.refl _ | assumption | apply Ext.alloc | apply Ext.ext | apply Ext.drew | refine Ext.setCell ?_ ?_ _) | (focus (simp [go_sem]; done))))⟩
          · cases h3 : (t / 1048576 - offs first L (s - 1) == s)
            ·
              cases h4 : inB s
              · have h4' := inB_false h4
                have HR := Lib.hid ((H2.out (fun h => by rw [beq_eq_false_iff_ne] at h3; exact h3 h.2)).2 h4)
                clear H1 H2
                go_wp2_with fail
                (refine wp_region_ext (by kernel_rfl) (by kernel_rfl) ?_; (repeat (go_big_quiet_step ((first | (go_at_call 11; exact Calls.inExt (Calls.val (in_any _ _) (congrArg Value.bool h1))) | (go_at_call 12; exact Calls.inExt (step_any _ _ _ _ _ _ (by omega) (by omega) (hT.ext (by repeat (first | (with_reducible first | exact Ext.refl _ | assumption | apply Ext.alloc | apply Ext.ext | apply Ext.drew | refine Ext.setCell ?_ ?_ _) | (focus (simp [go_sem]; done))))) hv)) | (go_at_call 13; exact Calls.inExt (offset_any _ _ _ _ _ _ (hT.ext (by repeat (first | (with_reducible first | exact Ext.refl _ | assumption | apply Ext.alloc | apply Ext.ext | apply Ext.drew | refine Ext.setCell ?_ ?_ _) | (focus (simp [go_sem]; done))))))) | (go_at_call 10; exact Calls.inExt (second_any _ _)))))); refine wpQuiet_nil ?_; rintro _ ⟨xq, rfl⟩)
                go_wp2_with (first | (go_at_call 11; refine (in_any _ _).mono ?_; rintro e w1 ⟨rfl, hxq⟩; obtain ⟨xq, rfl⟩ := hxq.out; clear hxq) | (go_at_call 14; refine (part_any _ _).mono ?_; rintro e w1 ⟨rfl, hxq⟩; obtain ⟨xq, rfl⟩ := hxq.out; clear hxq))
                refine bodyPost_ret (v := .tuple #[.agg #[.int .i64 0, .bool false, .int .i64 0], .int .i64 9]) (by simp [results, Try.results7, go_sem, hr0, hr1, hr2]) rfl ?_
                exact ⟨by rw [HR.out], (by repeat (first | (with_reducible first | exact Ext.refl _ | assumption | apply Ext.alloc | apply Ext.ext | apply Ext.drew | refine Ext.setCell ?_ ?_ _) | (focus (simp [go_sem]; done))))⟩
              ·
                have HR := Lib.hid ((H2.out (fun h => by rw [beq_eq_false_iff_ne] at h3; exact h3 h.2)).1 h4)
                clear H1 H2
                go_wp2_with fail
                (refine wp_region_ext (by kernel_rfl) (by kernel_rfl) ?_; (repeat (go_big_quiet_step ((first | (go_at_call 11; exact Calls.inExt (Calls.val (in_any _ _) (congrArg Value.bool h1))) | (go_at_call 12; exact Calls.inExt (step_any _ _ _ _ _ _ (by omega) (by omega) (hT.ext (by repeat (first | (with_reducible first | exact Ext.refl _ | assumption | apply Ext.alloc | apply Ext.ext | apply Ext.drew | refine Ext.setCell ?_ ?_ _) | (focus (simp [go_sem]; done))))) hv)) | (go_at_call 13; exact Calls.inExt (offset_any _ _ _ _ _ _ (hT.ext (by repeat (first | (with_reducible first | exact Ext.refl _ | assumption | apply Ext.alloc | apply Ext.ext | apply Ext.drew | refine Ext.setCell ?_ ?_ _) | (focus (simp [go_sem]; done))))))) | (go_at_call 10; exact Calls.inExt (second_any _ _)))))); refine wpQuiet_nil ?_; rintro _ ⟨xq, rfl⟩)
                go_wp2_with (first | (go_at_call 11; refine (in_any _ _).mono ?_; rintro e w1 ⟨rfl, hxq⟩; obtain ⟨xq, rfl⟩ := hxq.out; clear hxq) | (go_at_call 14; refine (part_any _ _).mono ?_; rintro e w1 ⟨rfl, hxq⟩; obtain ⟨xq, rfl⟩ := hxq.out; clear hxq))
                refine bodyPost_ret (v := .tuple #[.agg #[.int .i64 s, .bool false, .int .i64 (t % 1048576)], .int .i64 0]) (by simp [results, Try.results7, go_sem, hr0, hr1, hr2]) rfl ?_
                exact ⟨by rw [HR.out], (by repeat (first | (with_reducible first | exact Ext.refl _ | assumption | apply Ext.alloc | apply Ext.ext | apply Ext.drew | refine Ext.setCell ?_ ?_ _) | (focus (simp [go_sem]; done))))⟩
            ·
              have HR := Lib.hid ((H1.out ⟨beq_iff_eq.1 h2, beq_iff_eq.1 h3⟩).2)
              clear H1 H2
              go_wp2_with fail
              (refine wp_region_ext (by kernel_rfl) (by kernel_rfl) ?_; (repeat (go_big_quiet_step ((first | (go_at_call 11; exact Calls.inExt (Calls.val (in_any _ _) (congrArg Value.bool h1))) | (go_at_call 12; exact Calls.inExt (step_any _ _ _ _ _ _ (by omega) (by omega) (hT.ext (by repeat (first | (with_reducible first | exact Ext.refl _ | assumption | apply Ext.alloc | apply Ext.ext | apply Ext.drew | refine Ext.setCell ?_ ?_ _) | (focus (simp [go_sem]; done))))) hv)) | (go_at_call 13; exact Calls.inExt (offset_any _ _ _ _ _ _ (hT.ext (by repeat (first | (with_reducible first | exact Ext.refl _ | assumption | apply Ext.alloc | apply Ext.ext | apply Ext.drew | refine Ext.setCell ?_ ?_ _) | (focus (simp [go_sem]; done))))))) | (go_at_call 10; exact Calls.inExt (second_any _ _)))))); refine wpQuiet_nil ?_; rintro _ ⟨xq, rfl⟩)
              go_wp2_with (first | (go_at_call 11; refine (in_any _ _).mono ?_; rintro e w1 ⟨rfl, hxq⟩; obtain ⟨xq, rfl⟩ := hxq.out; clear hxq) | (go_at_call 14; refine (part_any _ _).mono ?_; rintro e w1 ⟨rfl, hxq⟩; obtain ⟨xq, rfl⟩ := hxq.out; clear hxq))
              refine bodyPost_ret (v := .tuple #[.agg #[.int .i64 (s - 1), .bool true, .int .i64 (t % 1048576)], .int .i64 0]) (by simp [results, Try.results7, go_sem, hr0, hr1, hr2]) rfl ?_
              exact ⟨by rw [HR.out], (by repeat (first | (with_reducible first | exact Ext.refl _ | assumption | apply Ext.alloc | apply Ext.ext | apply Ext.drew | refine Ext.setCell ?_ ?_ _) | (focus (simp [go_sem]; done))))⟩


theorem num_bad {first : Int} {L : List (Int × Int)} {s tk : Int} (h : (taiP first L s false tk).2 ≠ 0) : numP first L s tk = ((0, 0), (taiP first L s false tk).2) := by simp [numP, h]
theorem num_ins {first : Int} {L : List (Int × Int)} {s tk : Int} (h : (taiP first L s false tk).2 = 0) (h' : stp first L s = 1) : numP first L s tk = (((taiP first L s false tk).1, (taiP first L s false tk).1 + 1048576), 0) := by simp [numP, h, h']
theorem num_one {first : Int} {L : List (Int × Int)} {s tk : Int} (h : (taiP first L s false tk).2 = 0) (h' : stp first L s ≠ 1) : numP first L s tk = (((taiP first L s false tk).1, (taiP first L s false tk).1), 0) := by simp [numP, h, h']
theorem tai_fine {first : Int} {L : List (Int × Int)} {s tk : Int} {lp : Bool} (h : (taiP first L s lp tk).2 = 0) :
    vldB first L = true ∧ inB s = true ∧ 0 ≤ tk ∧ tk < 1048576 ∧ stp first L s ≠ -1 ∧ (lp = true → stp first L s = 1) ∧ (taiP first L s lp tk).1 = ((s + offs first L s) + (if lp then 1 else 0)) * 1048576 + tk := by
  rcases chk_cases first L s with ⟨hv, hc⟩ | ⟨hv, hi, hc⟩ | ⟨hv, hi, hc⟩
  · simp [taiP, hc] at h
  · simp [taiP, hc] at h
  · unfold taiP at h ⊢
    simp only [hc, ne_eq, not_true_eq_false, if_false] at h ⊢
    by_cases h1 : tk < 0 ∨ 1048576 ≤ tk
    · rw [if_pos h1] at h; cases h
    · rw [if_neg h1] at h ⊢
      by_cases h2 : stp first L s = -1 ∨ (lp = true ∧ stp first L s ≠ 1)
      · rw [if_pos h2] at h; cases h
      · rw [if_neg h2]
        refine ⟨hv, hi, by omega, by omega, fun h => h2 (.inl h), fun hl => ?_, rfl⟩
        exact Classical.byContradiction fun h3 => h2 (.inr ⟨hl, h3⟩)

set_option maxHeartbeats 4000000 in
theorem Number_any (first : Int) (a : Option Addr) (cap : Nat) (L : List (Int × Int)) (s tk : Int) (w : World) (hT : Tb w a L) :
    Calls Try.prog 16 #[.agg #[.int .i64 first, .slice a L.length cap], .int .i64 s, .int .i64 tk] w fun e w' => e = .returned (.tuple #[.agg #[.int .i64 (numP first L s tk).1.1, .int .i64 (numP first L s tk).1.2], .int .i64 (numP first L s tk).2]) ∧ Ext w w' := by
  by_cases hc : (taiP first L s false tk).2 = 0
  case neg =>
    have HR := Lib.hid (num_bad hc)
    have hc' : ((taiP first L s false tk).2 != 0) = true := by simpa using hc
    clear hc
    go_enter Try.func16, Try.ntmps16
    go_wp2_with (first
      | (go_at_call 15; refine (TAI_any _ _ _ _ _ _ _ _ (hT.ext (by repeat (first | (with_reducible first | exact Ext.refl _ | assumption | apply Ext.alloc | apply Ext.ext | apply Ext.drew | refine Ext.setCell ?_ ?_ _) | (focus (simp [go_sem]; done)))))).mono ?_; rintro e w1 ⟨rfl, hxq⟩; obtain ⟨xq, rfl⟩ := hxq.out; clear hxq))
    go_returns
    exact ⟨by rw [HR.out], (by repeat (first | (with_reducible first | exact Ext.refl _ | assumption | apply Ext.alloc | apply Ext.ext | apply Ext.drew | refine Ext.setCell ?_ ?_ _) | (focus (simp [go_sem]; done))))⟩
  case pos =>
    obtain ⟨hv, hi, ht0, ht1, hn, -, hval⟩ := tai_fine hc
    have hi' := in_of hi
    have ho := offs_at hv s
    have hb : -100000000000000000 ≤ (taiP first L s false tk).1 ∧ (taiP first L s false tk).1 ≤ 1000000000000000000 := by
      rw [hval]; simp; omega
    have hc' : ((taiP first L s false tk).2 != 0) = false := by simpa using hc
    by_cases hs : stp first L s = 1
    · have HR := Lib.hid (num_ins hc hs)
      have hs' : (stp first L s == 1) = true := by simpa using hs
      clear hc hs hval
      go_enter Try.func16, Try.ntmps16
      go_wp2_with (first
        | (go_at_call 15; refine (TAI_any _ _ _ _ _ _ _ _ (hT.ext (by repeat (first | (with_reducible first | exact Ext.refl _ | assumption | apply Ext.alloc | apply Ext.ext | apply Ext.drew | refine Ext.setCell ?_ ?_ _) | (focus (simp [go_sem]; done)))))).mono ?_; rintro e w1 ⟨rfl, hxq⟩; obtain ⟨xq, rfl⟩ := hxq.out; clear hxq)
        | (go_at_call 12; refine (step_any _ _ _ _ _ _ (by omega) (by omega) (hT.ext (by repeat (first | (with_reducible first | exact Ext.refl _ | assumption | apply Ext.alloc | apply Ext.ext | apply Ext.drew | refine Ext.setCell ?_ ?_ _) | (focus (simp [go_sem]; done))))) hv).mono ?_; rintro e w1 ⟨rfl, hxq⟩; obtain ⟨xq, rfl⟩ := hxq.out; clear hxq))
      go_returns
      exact ⟨by rw [HR.out], (by repeat (first | (with_reducible first | exact Ext.refl _ | assumption | apply Ext.alloc | apply Ext.ext | apply Ext.drew | refine Ext.setCell ?_ ?_ _) | (focus (simp [go_sem]; done))))⟩
    · have HR := Lib.hid (num_one hc hs)
      have hs' : (stp first L s == 1) = false := by simpa using hs
      clear hc hs hval
      go_enter Try.func16, Try.ntmps16
      go_wp2_with (first
        | (go_at_call 15; refine (TAI_any _ _ _ _ _ _ _ _ (hT.ext (by repeat (first | (with_reducible first | exact Ext.refl _ | assumption | apply Ext.alloc | apply Ext.ext | apply Ext.drew | refine Ext.setCell ?_ ?_ _) | (focus (simp [go_sem]; done)))))).mono ?_; rintro e w1 ⟨rfl, hxq⟩; obtain ⟨xq, rfl⟩ := hxq.out; clear hxq)
        | (go_at_call 12; refine (step_any _ _ _ _ _ _ (by omega) (by omega) (hT.ext (by repeat (first | (with_reducible first | exact Ext.refl _ | assumption | apply Ext.alloc | apply Ext.ext | apply Ext.drew | refine Ext.setCell ?_ ?_ _) | (focus (simp [go_sem]; done))))) hv).mono ?_; rintro e w1 ⟨rfl, hxq⟩; obtain ⟨xq, rfl⟩ := hxq.out; clear hxq))
      go_returns
      exact ⟨by rw [HR.out], (by repeat (first | (with_reducible first | exact Ext.refl _ | assumption | apply Ext.alloc | apply Ext.ext | apply Ext.drew | refine Ext.setCell ?_ ?_ _) | (focus (simp [go_sem]; done))))⟩

end Go.Proofs.Ytlmnholjngfpmaa
