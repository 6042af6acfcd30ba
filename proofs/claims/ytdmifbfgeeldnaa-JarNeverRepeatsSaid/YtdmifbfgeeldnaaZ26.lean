/- Lemmas of this claim, several texts joined. -/
import Derived.Test.YtdmifbfgeeldnaaZ3
import Derived.Test.YtdmifbfgeeldnaaZ4
import Derived.Test.YtdmifbfgeeldnaaZ5
import Derived.Test.YtdmifbfgeeldnaaZ6
import Derived.Test.YtdmifbfgeeldnaaZ10
import Derived.Test.YtdmifbfgeeldnaaZ12
import Derived.Test.YtdmifbfgeeldnaaZ14
import Derived.Test.YtdmifbfgeeldnaaZ16
import Derived.Test.YtdmifbfgeeldnaaZ25
set_option linter.unusedVariables false
set_option linter.unusedSimpArgs false
/- The walks of layer 22: cookie, has, paired. -/
namespace Go.Proofs.Ytdmifbfgeeldnaa
open Go.RowKit Go.Sec Go.Oct BigFrame

set_option maxRecDepth 100000 in
theorem jcookie_any (a : Option Addr) (n c : Nat) (l : List UInt8) (w : World) (h : Sl w a n l) :
    Calls Try.prog 22 #[.slice a n c] w fun e w' => e = .returned (.bool (decide (l.length = 104))) ∧ Ext w w' := by
  have hl := h.len
  by_cases hn : n = 104
  · have hI : ((n : Int) == 104) = true := by rw [beq_iff_eq]; omega
    have e := Lib.hid (show decide (l.length = 104) = true by simp; omega)
    clear hl hn
    go_enter Try.func22, Try.ntmps22
    go_wp2
    go_ret
    exact ⟨by rw [e.out]; rfl, Ext.refl _⟩
  · have hI : ((n : Int) == 104) = false := by rw [beq_eq_false_iff_ne]; omega
    have e := Lib.hid (show decide (l.length = 104) = false by simp; omega)
    clear hl hn
    go_enter Try.func22, Try.ntmps22
    go_wp2
    go_ret
    exact ⟨by rw [e.out]; rfl, Ext.refl _⟩

set_option maxRecDepth 100000 in
theorem has1_any (a b : Option Addr) (n c m d g : Nat) (l k : List UInt8) (w : World) (h : Sl w a n l) (hB : Blk w g 25 [.slice b m d]) (hk : Sl w b m k) :
    Calls Try.prog 38 #[.slice a n c, .pointer (some ⟨g, 0, none⟩)] w fun e w' => e = .returned (.bool (l == k)) ∧ Ext w w' := by
  haveI := hB.blt
  have f0 := hB.cell? 0 rfl
  have hs := fun W H1 H2 => osame_any a b n c m d l k W H1 H2
  go_enter Try.func38, Try.ntmps38
  go_wp2_with (first
    | (go_at_call 36; refine (hs _ (h.ext (by repeat (first | (with_reducible first | exact Ext.refl _ | assumption | apply Ext.alloc | apply Ext.ext | apply Ext.drew | refine Ext.setCell ?_ ?_ _) | (focus (simp [go_sem]; done))))) (hk.ext (by repeat (first | (with_reducible first | exact Ext.refl _ | assumption | apply Ext.alloc | apply Ext.ext | apply Ext.drew | refine Ext.setCell ?_ ?_ _) | (focus (simp [go_sem]; done)))))).mono ?_; rintro e w1 ⟨rfl, hxq⟩; obtain ⟨xq, rfl⟩ := hxq.out; clear hxq)
    | fail)
  go_ret
  exact ⟨rfl, (by repeat (first | (with_reducible first | exact Ext.refl _ | assumption | apply Ext.alloc | apply Ext.ext | apply Ext.drew | refine Ext.setCell ?_ ?_ _) | (focus (simp [go_sem]; done))))⟩

def IdxHas (L : List (List UInt8)) (k : List UInt8) (w : World) (e : Ending) (w' : World) : Prop := ∃ r : Int, e = .returned (.int .i64 r) ∧ (0 ≤ r ↔ k ∈ L) ∧ Ext w w'
set_option maxRecDepth 100000 in
set_option maxHeartbeats 4000000 in
theorem indexHas_any (a b : Option Addr) (n c m d g : Nat) (L : List (List UInt8)) (k : List UInt8) (w : World) (h : Bsc w a n L) (hn : n ≤ 1000000) (hB : Blk w g 25 [.slice b m d]) (hk : Sl w b m k) :
    Calls Try.prog 35 #[.slice a n c, .func (.func 38) #[] #[.pointer (some ⟨g, 0, none⟩)]] w (IdxHas L k w) := by
  have hl := h.len
  have ho := fun a' n' c' x W H1 H2 H3 => has1_any a' b n' c' m d g x k W H1 H2 H3
  go_enter Try.func35, Try.ntmps35
  go_wp2_with fail
  go_loopw [8] (fun v8 wr => ∃ i : Nat, i ≤ n ∧ v8 = .int .i64 i ∧ Hid (k ∉ L.take i) ∧ Ext w wr) (fun v8 _ => n - (intOf v8).toNat)
  case atStart => exact ⟨0, by omega, rfl, Lib.hid (by simp), Ext.refl _⟩
  case round =>
    obtain ⟨i, hi, rfl, hm, hx⟩ := hrel
    by_cases hlt : i < n
    · obtain ⟨b0, o0, a', n', c', rfl, hb0, hcell, hc', hS⟩ := (h.ext hx).at i hlt
      have i0 : (0 : Int) ≤ (i : Int) := by omega
      have i1 : (i : Int) < (n : Int) := by omega
      have hiL : i < L.length := by omega
      have hts := Lib.hid (show L.take (i + 1) = L.take i ++ [L[i]] from List.take_succ_eq_append_getElem hiL)
      have hmem := List.getElem_mem hiL
      generalize L[i] = X at *
      haveI := hb0
      go_wp2_with fail
      (with_reducible refine (ho _ _ _ _ _ hS (hB.extB hx) (hk.ext hx)).mono ?_); rintro e w1 ⟨rfl, hx1⟩
      cases hb : (X == k)
      · have hm2 := Lib.hid (show k ∉ L.take (i + 1) by
          rw [hts.out]
          intro hh
          rcases List.mem_append.1 hh with h | h
          · exact hm.out h
          · rw [← List.mem_singleton.1 h] at hb; simp at hb)
        clear hb
        go_wp2_with fail
        go_roundw
        case rel => exact ⟨i + 1, by omega, by go_num, hm2, hx.trans hx1⟩
        case measure => simp [intOf]; omega
      · have hm2 := Lib.hid (show k ∈ L by rw [← eq_of_beq hb]; exact hmem)
        clear hb
        go_wp2_with fail
        go_ret
        exact ⟨i, rfl, by simp [hm2.out], hx.trans hx1⟩
    · obtain rfl : i = n := by omega
      have hlo := Lib.hid (show k ∉ L by have := hm.out; rwa [List.take_of_length_le (by omega)] at this)
      go_wp2_with fail
      go_ret
      exact ⟨-1, rfl, by simp [hlo.out], hx⟩

theorem containsHas_any (a b : Option Addr) (n c m d g : Nat) (L : List (List UInt8)) (k : List UInt8) (w : World) (h : Bsc w a n L) (hn : n ≤ 1000000) (hB : Blk w g 25 [.slice b m d]) (hk : Sl w b m k) :
    Calls Try.prog 20 #[.slice a n c, .func (.func 38) #[] #[.pointer (some ⟨g, 0, none⟩)]] w fun e w' => e = .returned (.bool (decide (k ∈ L))) ∧ Ext w w' := by
  go_enter Try.func20, Try.ntmps20
  go_wp2_with fail
  refine (indexHas_any _ _ _ _ _ _ _ _ _ _ h hn hB hk).mono ?_; rintro e w1 ⟨r, rfl, hr, hx1⟩
  have hd := Lib.hid (show decide (0 ≤ r) = decide (k ∈ L) by rw [decide_eq_decide]; exact hr)
  clear hr
  go_wp2_with fail
  go_ret
  exact ⟨by rw [← hd.out]; rfl, hx1⟩

set_option maxRecDepth 100000 in
theorem has_any (a b : Option Addr) (n c m d : Nat) (L : List (List UInt8)) (k : List UInt8) (w : World) (h : Bsc w a n L) (hn : n ≤ 1000000) (hk : Sl w b m k) :
    Calls Try.prog 27 #[.slice a n c, .slice b m d] w fun e w' => e = .returned (.bool (decide (k ∈ L))) ∧ Ext w w' := by
  have hc := fun W g H1 H2 H3 => containsHas_any a b n c m d g L k W H1 hn H2 H3
  go_enter Try.func27, Try.ntmps27
  go_wp2_with fail
  have hx := Ext.of_alloc w (.cells #[.slice b m d] 25)
  (with_reducible refine (hc _ _ (h.ext hx) (Blk.new w #[.slice b m d] 25) (hk.ext hx)).mono ?_)
  rintro e w1 ⟨rfl, hx1⟩
  go_wp2
  go_ret
  exact ⟨rfl, hx.trans hx1⟩

set_option maxRecDepth 100000 in
theorem paired_any (a b : Option Addr) (n c m d : Nat) (u v : List UInt8) (w : World) (h1 : Sl w a n u) (h2 : Sl w b m v) :
    Calls Try.prog 26 #[.agg #[.slice a n c, .slice b m d]] w fun e w' => e = .returned (.bool (decide (u.length = 32 ∧ v.length = 32))) ∧ Ext w w' := by
  have hl1 := h1.len
  have hl2 := h2.len
  by_cases hn : n = 32
  · have i1 : ((n : Int) == 32) = true := by rw [beq_iff_eq]; omega
    by_cases hm : m = 32
    · have i2 : ((m : Int) == 32) = true := by rw [beq_iff_eq]; omega
      have e := Lib.hid (show decide (u.length = 32 ∧ v.length = 32) = true by simp; omega)
      clear hl1 hl2 hn hm
      go_enter Try.func26, Try.ntmps26
      go_wp2
      go_ret
      exact ⟨by rw [e.out]; rfl, (by repeat (first | (with_reducible first | exact Ext.refl _ | assumption | apply Ext.alloc | apply Ext.ext | apply Ext.drew | refine Ext.setCell ?_ ?_ _) | (focus (simp [go_sem]; done))))⟩
    · have i2 : ((m : Int) == 32) = false := by rw [beq_eq_false_iff_ne]; omega
      have e := Lib.hid (show decide (u.length = 32 ∧ v.length = 32) = false by simp; omega)
      clear hl1 hl2 hn hm
      go_enter Try.func26, Try.ntmps26
      go_wp2
      go_ret
      exact ⟨by rw [e.out]; rfl, (by repeat (first | (with_reducible first | exact Ext.refl _ | assumption | apply Ext.alloc | apply Ext.ext | apply Ext.drew | refine Ext.setCell ?_ ?_ _) | (focus (simp [go_sem]; done))))⟩
  · have i1 : ((n : Int) == 32) = false := by rw [beq_eq_false_iff_ne]; omega
    have e := Lib.hid (show decide (u.length = 32 ∧ v.length = 32) = false by simp; omega)
    clear hl1 hl2 hn
    go_enter Try.func26, Try.ntmps26
    go_wp2
    go_ret
    exact ⟨by rw [e.out]; rfl, (by repeat (first | (with_reducible first | exact Ext.refl _ | assumption | apply Ext.alloc | apply Ext.ext | apply Ext.drew | refine Ext.setCell ?_ ?_ _) | (focus (simp [go_sem]; done))))⟩
end Go.Proofs.Ytdmifbfgeeldnaa

/- The walks of layer 22: copied, Valid. -/
namespace Go.Jar
structure Jar where
  up : List UInt8
  dn : List UInt8
  ck : List (List UInt8)
  last : List UInt8
  net : Int
  sent : Int
deriving DecidableEq
def zeroJ : Jar := ⟨[], [], [], [], 0, 0⟩
def headJ (j : Jar) : Prop := (j.up.length = 32 ∧ j.dn.length = 32) ∧ j.ck.length ≤ 8 ∧ (j.last.length = 0 ∨ j.last.length = 104) ∧ j.last ∉ j.ck ∧ 0 ≤ j.net ∧ 0 ≤ j.sent ∧ j.sent ≤ 1099511627776
instance (j : Jar) : Decidable (headJ j) := by unfold headJ; infer_instance
def validJ (j : Jar) : Bool := decide (headJ j) && (j.ck.all (fun b => decide (b.length = 104)) && decide j.ck.Nodup)
theorem validJ_head {j : Jar} (h : ¬ headJ j) : validJ j = false := by unfold validJ; rw [decide_eq_false h]; rfl
theorem validJ_bad {j : Jar} {k : Nat} (hk : k < j.ck.length) (h : (j.ck[k]).length ≠ 104 ∨ j.ck[k] ∈ j.ck.take k) : validJ j = false := by
  by_cases hv : validJ j = true
  · exfalso
    unfold validJ at hv
    rw [Bool.and_eq_true, Bool.and_eq_true] at hv
    obtain ⟨_, h1, h2⟩ := hv
    rcases h with h | h
    · have := List.all_eq_true.1 h1 _ (List.getElem_mem hk)
      simp at this
      exact h this
    · obtain ⟨i, hi, he⟩ := List.getElem_of_mem h
      rw [List.length_take] at hi
      rw [List.getElem_take] at he
      have := List.pairwise_iff_getElem.1 (of_decide_eq_true h2) i k (by omega) hk (by omega)
      exact this he
  · simpa using hv
theorem validJ_end {j : Jar} (h : headJ j) (h1 : ∀ b ∈ j.ck, b.length = 104) (h2 : j.ck.Nodup) : validJ j = true := by
  unfold validJ
  rw [decide_eq_true h, decide_eq_true h2, List.all_eq_true.2 (fun b hb => by simpa using h1 b hb)]
  rfl
end Go.Jar
namespace Go.Proofs.Ytdmifbfgeeldnaa
open Go.RowKit Go.Sec Go.Oct Go.Jar BigFrame

set_option maxRecDepth 100000 in
set_option maxHeartbeats 4000000 in
theorem jcopied_any (a : Option Addr) (n c : Nat) (L : List (List UInt8)) (w : World) (h : Bsc w a n L) (hn : n ≤ 100000) (hb : ∀ x ∈ L, x.length ≤ 1000000) :
    Calls Try.prog 37 #[.slice a n c] w fun e w' => ∃ b d, e = .returned (.slice b n d) ∧ OwnB w' w.heap.size b n d L ∧ Ext w w' := by
  have hl := h.len
  go_enter Try.func37, Try.ntmps37
  go_wp2
  go_loopw [3, 5, 8] (fun v3 _ v8 wr => ∃ (k : Nat) (sa : Option Addr) (sc : Nat), k ≤ n ∧ v8 = .int .i64 k ∧ v3 = .slice sa k sc ∧ OwnB wr w.heap.size sa k sc (L.take k) ∧ Ext w wr) (fun _ _ v8 _ => n - (intOf v8).toNat)
  case atStart => exact ⟨0, none, 0, Nat.zero_le _, rfl, rfl, OwnB.nil _ _, Ext.refl _⟩
  case round =>
    obtain ⟨k, sa, sc, hk, rfl, rfl, hO, hE⟩ := hrel
    by_cases hlt : k < n
    · have hk0 : (0 : Int) ≤ (k : Int) := by omega
      have hkn : (k : Int) < (n : Int) := by omega
      obtain ⟨b0, o0, a', n', c', rfl, hb0, hcell, hc', hS⟩ := (h.ext hE).at k hlt
      have hkL : k < L.length := by omega
      have hts : L.take (k + 1) = L.take k ++ [L[k]] := List.take_succ_eq_append_getElem hkL
      have hbx := hb _ (List.getElem_mem hkL)
      generalize L[k] = X at *
      have hXl := hS.len
      haveI := hb0
      go_wp2_with fail
      (with_reducible refine (clone_any _ _ _ X _ hS (by omega)).mono ?_)
      rintro e w1 ⟨a1, c1, rfl, hO1, hx1⟩
      have hO := (hO.ext hx1).ext (Ext.of_alloc w1 (.cells #[.slice a1 n' c1] 25))
      have hE1 := (hE.trans hx1).alloc (.cells #[.slice a1 n' c1] 25)
      have hO1' := hO1.ext (Ext.of_alloc w1 (.cells #[.slice a1 n' c1] 25))
      go_wp2_with (first
        | (refine wpList_append_one V8 rfl _ _ rfl w.heap.size sa k sc _ rfl w1.heap.size rfl hO a1 n' c1 X (Blk.new w1 #[.slice a1 n' c1] 25).rd hO1'.sl hO1.le.1 (Own.inBlk hO1') (by omega) hE1.size ?_; intro sa' sc' w6 hO6 hg6 hb6)
        | fail)
      go_roundw
      case rel => exact ⟨k + 1, sa', sc', by omega, by go_num, rfl, by rw [hts]; exact hO6, Below.trans hE1 hb6⟩
      case measure => simp [intOf]; omega
    · obtain rfl : k = n := by omega
      have hkn : ¬ (k : Int) < (k : Int) := by omega
      rw [List.take_of_length_le (by omega)] at hO
      go_wp2_with fail
      go_ret
      exact ⟨_, _, rfl, hO, hE⟩

set_option maxRecDepth 100000 in
set_option maxHeartbeats 8000000 in
theorem jvalid_any (a1 a2 a3 a4 : Option Addr) (n1 c1 n2 c2 n3 c3 n4 c4 : Nat) (j : Jar) (w : World) (h1 : Sl w a1 n1 j.up) (h2 : Sl w a2 n2 j.dn) (h3 : Bsc w a3 n3 j.ck) (hc3 : n3 ≤ c3) (hn3 : n3 ≤ 1000000) (h4 : Sl w a4 n4 j.last) :
    Calls Try.prog 13 #[.agg #[.slice a1 n1 c1, .slice a2 n2 c2, .slice a3 n3 c3, .slice a4 n4 c4, .int .i64 j.net, .int .i64 j.sent]] w fun e w' => e = .returned (.bool (validJ j)) ∧ Ext w w' := by
  have hpa := fun W H1 H2 => paired_any a1 a2 n1 c1 n2 c2 j.up j.dn W H1 H2
  have hck := fun W H => jcookie_any a4 n4 c4 j.last W H
  have hhs := fun W H1 H2 => has_any a3 a4 n3 c3 n4 c4 j.ck j.last W H1 hn3 H2
  have hl3 := h3.len
  have hl4 := h4.len
  cases hp : decide (j.up.length = 32 ∧ j.dn.length = 32)
  · have hv := Lib.hid (validJ_head (j := j) (fun h => by have := of_decide_eq_false hp; exact this h.1))
    simp only [hp] at hpa
    clear hp
    go_enter Try.func13, Try.ntmps13
    go_wp2_with (first
      | (go_at_call 26; refine (hpa _ (h1.ext (by repeat (first | (with_reducible first | exact Ext.refl _ | assumption | apply Ext.alloc | apply Ext.ext | apply Ext.drew | refine Ext.setCell ?_ ?_ _) | (focus (simp [go_sem]; done))))) (h2.ext (by repeat (first | (with_reducible first | exact Ext.refl _ | assumption | apply Ext.alloc | apply Ext.ext | apply Ext.drew | refine Ext.setCell ?_ ?_ _) | (focus (simp [go_sem]; done)))))).mono ?_; rintro e w1 ⟨rfl, hxq⟩; obtain ⟨xq, rfl⟩ := hxq.out; clear hxq)
      | (go_at_call 22; refine (hck _ (h4.ext (by repeat (first | (with_reducible first | exact Ext.refl _ | assumption | apply Ext.alloc | apply Ext.ext | apply Ext.drew | refine Ext.setCell ?_ ?_ _) | (focus (simp [go_sem]; done)))))).mono ?_; rintro e w1 ⟨rfl, hxq⟩; obtain ⟨xq, rfl⟩ := hxq.out; clear hxq)
      | (go_at_call 27; refine (hhs _ (h3.ext (by repeat (first | (with_reducible first | exact Ext.refl _ | assumption | apply Ext.alloc | apply Ext.ext | apply Ext.drew | refine Ext.setCell ?_ ?_ _) | (focus (simp [go_sem]; done))))) (h4.ext (by repeat (first | (with_reducible first | exact Ext.refl _ | assumption | apply Ext.alloc | apply Ext.ext | apply Ext.drew | refine Ext.setCell ?_ ?_ _) | (focus (simp [go_sem]; done)))))).mono ?_; rintro e w1 ⟨rfl, hxq⟩; obtain ⟨xq, rfl⟩ := hxq.out; clear hxq)
      | fail)
    go_ret
    exact ⟨by rw [hv.out]; rfl, (by repeat (first | (with_reducible first | exact Ext.refl _ | assumption | apply Ext.alloc | apply Ext.ext | apply Ext.drew | refine Ext.setCell ?_ ?_ _) | (focus (simp [go_sem]; done))))⟩
  · have hp' := of_decide_eq_true hp
    simp only [hp] at hpa
    clear hp
    by_cases n8 : 8 < n3
    · have hv := Lib.hid (validJ_head (j := j) (fun h => by have := h.2.1; omega))
      have i8 : (8 : Int) < (n3 : Int) := by omega
      go_enter Try.func13, Try.ntmps13
      go_wp2_with (first
        | (go_at_call 26; refine (hpa _ (h1.ext (by repeat (first | (with_reducible first | exact Ext.refl _ | assumption | apply Ext.alloc | apply Ext.ext | apply Ext.drew | refine Ext.setCell ?_ ?_ _) | (focus (simp [go_sem]; done))))) (h2.ext (by repeat (first | (with_reducible first | exact Ext.refl _ | assumption | apply Ext.alloc | apply Ext.ext | apply Ext.drew | refine Ext.setCell ?_ ?_ _) | (focus (simp [go_sem]; done)))))).mono ?_; rintro e w1 ⟨rfl, hxq⟩; obtain ⟨xq, rfl⟩ := hxq.out; clear hxq)
        | (go_at_call 22; refine (hck _ (h4.ext (by repeat (first | (with_reducible first | exact Ext.refl _ | assumption | apply Ext.alloc | apply Ext.ext | apply Ext.drew | refine Ext.setCell ?_ ?_ _) | (focus (simp [go_sem]; done)))))).mono ?_; rintro e w1 ⟨rfl, hxq⟩; obtain ⟨xq, rfl⟩ := hxq.out; clear hxq)
        | (go_at_call 27; refine (hhs _ (h3.ext (by repeat (first | (with_reducible first | exact Ext.refl _ | assumption | apply Ext.alloc | apply Ext.ext | apply Ext.drew | refine Ext.setCell ?_ ?_ _) | (focus (simp [go_sem]; done))))) (h4.ext (by repeat (first | (with_reducible first | exact Ext.refl _ | assumption | apply Ext.alloc | apply Ext.ext | apply Ext.drew | refine Ext.setCell ?_ ?_ _) | (focus (simp [go_sem]; done)))))).mono ?_; rintro e w1 ⟨rfl, hxq⟩; obtain ⟨xq, rfl⟩ := hxq.out; clear hxq)
        | fail)
      go_ret
      exact ⟨by rw [hv.out]; rfl, (by repeat (first | (with_reducible first | exact Ext.refl _ | assumption | apply Ext.alloc | apply Ext.ext | apply Ext.drew | refine Ext.setCell ?_ ?_ _) | (focus (simp [go_sem]; done))))⟩
    · have i8 : ¬ (8 : Int) < (n3 : Int) := by omega
      by_cases z0 : n4 = 0
      · subst z0
        cases hm : decide (j.last ∈ j.ck)
        · have hm' := of_decide_eq_false hm
          simp only [hm] at hhs
          clear hm
          by_cases m1 : j.net < 0
          · have hv := Lib.hid (validJ_head (j := j) (fun h => by have := h.2.2.2.2.1; omega))
            go_enter Try.func13, Try.ntmps13
            go_wp2_with (first
              | (go_at_call 26; refine (hpa _ (h1.ext (by repeat (first | (with_reducible first | exact Ext.refl _ | assumption | apply Ext.alloc | apply Ext.ext | apply Ext.drew | refine Ext.setCell ?_ ?_ _) | (focus (simp [go_sem]; done))))) (h2.ext (by repeat (first | (with_reducible first | exact Ext.refl _ | assumption | apply Ext.alloc | apply Ext.ext | apply Ext.drew | refine Ext.setCell ?_ ?_ _) | (focus (simp [go_sem]; done)))))).mono ?_; rintro e w1 ⟨rfl, hxq⟩; obtain ⟨xq, rfl⟩ := hxq.out; clear hxq)
              | (go_at_call 22; refine (hck _ (h4.ext (by repeat (first | (with_reducible first | exact Ext.refl _ | assumption | apply Ext.alloc | apply Ext.ext | apply Ext.drew | refine Ext.setCell ?_ ?_ _) | (focus (simp [go_sem]; done)))))).mono ?_; rintro e w1 ⟨rfl, hxq⟩; obtain ⟨xq, rfl⟩ := hxq.out; clear hxq)
              | (go_at_call 27; refine (hhs _ (h3.ext (by repeat (first | (with_reducible first | exact Ext.refl _ | assumption | apply Ext.alloc | apply Ext.ext | apply Ext.drew | refine Ext.setCell ?_ ?_ _) | (focus (simp [go_sem]; done))))) (h4.ext (by repeat (first | (with_reducible first | exact Ext.refl _ | assumption | apply Ext.alloc | apply Ext.ext | apply Ext.drew | refine Ext.setCell ?_ ?_ _) | (focus (simp [go_sem]; done)))))).mono ?_; rintro e w1 ⟨rfl, hxq⟩; obtain ⟨xq, rfl⟩ := hxq.out; clear hxq)
              | fail)
            go_ret
            exact ⟨by rw [hv.out]; rfl, (by repeat (first | (with_reducible first | exact Ext.refl _ | assumption | apply Ext.alloc | apply Ext.ext | apply Ext.drew | refine Ext.setCell ?_ ?_ _) | (focus (simp [go_sem]; done))))⟩
          · by_cases m2 : j.sent < 0
            · have hv := Lib.hid (validJ_head (j := j) (fun h => by have := h.2.2.2.2.2.1; omega))
              go_enter Try.func13, Try.ntmps13
              go_wp2_with (first
                | (go_at_call 26; refine (hpa _ (h1.ext (by repeat (first | (with_reducible first | exact Ext.refl _ | assumption | apply Ext.alloc | apply Ext.ext | apply Ext.drew | refine Ext.setCell ?_ ?_ _) | (focus (simp [go_sem]; done))))) (h2.ext (by repeat (first | (with_reducible first | exact Ext.refl _ | assumption | apply Ext.alloc | apply Ext.ext | apply Ext.drew | refine Ext.setCell ?_ ?_ _) | (focus (simp [go_sem]; done)))))).mono ?_; rintro e w1 ⟨rfl, hxq⟩; obtain ⟨xq, rfl⟩ := hxq.out; clear hxq)
                | (go_at_call 22; refine (hck _ (h4.ext (by repeat (first | (with_reducible first | exact Ext.refl _ | assumption | apply Ext.alloc | apply Ext.ext | apply Ext.drew | refine Ext.setCell ?_ ?_ _) | (focus (simp [go_sem]; done)))))).mono ?_; rintro e w1 ⟨rfl, hxq⟩; obtain ⟨xq, rfl⟩ := hxq.out; clear hxq)
                | (go_at_call 27; refine (hhs _ (h3.ext (by repeat (first | (with_reducible first | exact Ext.refl _ | assumption | apply Ext.alloc | apply Ext.ext | apply Ext.drew | refine Ext.setCell ?_ ?_ _) | (focus (simp [go_sem]; done))))) (h4.ext (by repeat (first | (with_reducible first | exact Ext.refl _ | assumption | apply Ext.alloc | apply Ext.ext | apply Ext.drew | refine Ext.setCell ?_ ?_ _) | (focus (simp [go_sem]; done)))))).mono ?_; rintro e w1 ⟨rfl, hxq⟩; obtain ⟨xq, rfl⟩ := hxq.out; clear hxq)
                | fail)
              go_ret
              exact ⟨by rw [hv.out]; rfl, (by repeat (first | (with_reducible first | exact Ext.refl _ | assumption | apply Ext.alloc | apply Ext.ext | apply Ext.drew | refine Ext.setCell ?_ ?_ _) | (focus (simp [go_sem]; done))))⟩
            · by_cases m3 : 1099511627776 < j.sent
              · have hv := Lib.hid (validJ_head (j := j) (fun h => by have := h.2.2.2.2.2.2; omega))
                go_enter Try.func13, Try.ntmps13
                go_wp2_with (first
                  | (go_at_call 26; refine (hpa _ (h1.ext (by repeat (first | (with_reducible first | exact Ext.refl _ | assumption | apply Ext.alloc | apply Ext.ext | apply Ext.drew | refine Ext.setCell ?_ ?_ _) | (focus (simp [go_sem]; done))))) (h2.ext (by repeat (first | (with_reducible first | exact Ext.refl _ | assumption | apply Ext.alloc | apply Ext.ext | apply Ext.drew | refine Ext.setCell ?_ ?_ _) | (focus (simp [go_sem]; done)))))).mono ?_; rintro e w1 ⟨rfl, hxq⟩; obtain ⟨xq, rfl⟩ := hxq.out; clear hxq)
                  | (go_at_call 22; refine (hck _ (h4.ext (by repeat (first | (with_reducible first | exact Ext.refl _ | assumption | apply Ext.alloc | apply Ext.ext | apply Ext.drew | refine Ext.setCell ?_ ?_ _) | (focus (simp [go_sem]; done)))))).mono ?_; rintro e w1 ⟨rfl, hxq⟩; obtain ⟨xq, rfl⟩ := hxq.out; clear hxq)
                  | (go_at_call 27; refine (hhs _ (h3.ext (by repeat (first | (with_reducible first | exact Ext.refl _ | assumption | apply Ext.alloc | apply Ext.ext | apply Ext.drew | refine Ext.setCell ?_ ?_ _) | (focus (simp [go_sem]; done))))) (h4.ext (by repeat (first | (with_reducible first | exact Ext.refl _ | assumption | apply Ext.alloc | apply Ext.ext | apply Ext.drew | refine Ext.setCell ?_ ?_ _) | (focus (simp [go_sem]; done)))))).mono ?_; rintro e w1 ⟨rfl, hxq⟩; obtain ⟨xq, rfl⟩ := hxq.out; clear hxq)
                  | fail)
                go_ret
                exact ⟨by rw [hv.out]; rfl, (by repeat (first | (with_reducible first | exact Ext.refl _ | assumption | apply Ext.alloc | apply Ext.ext | apply Ext.drew | refine Ext.setCell ?_ ?_ _) | (focus (simp [go_sem]; done))))⟩
              · have hh : headJ j := ⟨hp', by omega, by omega, hm', by omega, by omega, by omega⟩
                clear hp' hm'
                go_enter Try.func13, Try.ntmps13
                go_wp2_with (first
                  | (go_at_call 26; refine (hpa _ (h1.ext (by repeat (first | (with_reducible first | exact Ext.refl _ | assumption | apply Ext.alloc | apply Ext.ext | apply Ext.drew | refine Ext.setCell ?_ ?_ _) | (focus (simp [go_sem]; done))))) (h2.ext (by repeat (first | (with_reducible first | exact Ext.refl _ | assumption | apply Ext.alloc | apply Ext.ext | apply Ext.drew | refine Ext.setCell ?_ ?_ _) | (focus (simp [go_sem]; done)))))).mono ?_; rintro e w1 ⟨rfl, hxq⟩; obtain ⟨xq, rfl⟩ := hxq.out; clear hxq)
                  | (go_at_call 22; refine (hck _ (h4.ext (by repeat (first | (with_reducible first | exact Ext.refl _ | assumption | apply Ext.alloc | apply Ext.ext | apply Ext.drew | refine Ext.setCell ?_ ?_ _) | (focus (simp [go_sem]; done)))))).mono ?_; rintro e w1 ⟨rfl, hxq⟩; obtain ⟨xq, rfl⟩ := hxq.out; clear hxq)
                  | (go_at_call 27; refine (hhs _ (h3.ext (by repeat (first | (with_reducible first | exact Ext.refl _ | assumption | apply Ext.alloc | apply Ext.ext | apply Ext.drew | refine Ext.setCell ?_ ?_ _) | (focus (simp [go_sem]; done))))) (h4.ext (by repeat (first | (with_reducible first | exact Ext.refl _ | assumption | apply Ext.alloc | apply Ext.ext | apply Ext.drew | refine Ext.setCell ?_ ?_ _) | (focus (simp [go_sem]; done)))))).mono ?_; rintro e w1 ⟨rfl, hxq⟩; obtain ⟨xq, rfl⟩ := hxq.out; clear hxq)
                  | fail)
                refine nameW ?_
                intro W hW
                have hEW : Ext w W := by rw [hW]; exact (by repeat (first | (with_reducible first | exact Ext.refl _ | assumption | apply Ext.alloc | apply Ext.ext | apply Ext.drew | refine Ext.setCell ?_ ?_ _) | (focus (simp [go_sem]; done))))
                have hB : Blk W w.heap.size 30 [.slice a1 n1 c1, .slice a2 n2 c2, .slice a3 n3 c3, .slice a4 0 c4, .int .i64 j.net, .int .i64 j.sent] := by rw [hW]; exact (by repeat (first | assumption | (refine Blk.newAt _ _ _ _ ?_; first | rfl | (simp only [World.size_alloc]; done)) | apply Blk.ext | apply Blk.alloc | (refine Blk.other ?_ ?_ _; rotate_left; (simp <;> omega))))
                clear hW hpa hck hhs
                haveI := hB.blt
                have f2 : W.cell? ⟨w.heap.size, 2, none⟩ = some (.slice a3 n3 c3) := hB.cell? 2 rfl
                go_wp2_with fail
                clear f2
                go_loopw [3, 4, 52] (fun _ _ v52 wr => ∃ k : Nat, k ≤ n3 ∧ v52 = .int .i64 k ∧ Hid ((∀ b ∈ j.ck.take k, b.length = 104) ∧ (j.ck.take k).Nodup) ∧ Blk wr w.heap.size 30 [.slice a1 n1 c1, .slice a2 n2 c2, .slice a3 n3 c3, .slice a4 0 c4, .int .i64 j.net, .int .i64 j.sent] ∧ Ext w wr) (fun _ _ v52 _ => n3 - (intOf v52).toNat)
                case atStart => exact ⟨0, Nat.zero_le _, rfl, Lib.hid ⟨by simp, by simp⟩, hB, hEW⟩
                case round =>
                  clear hB hEW
                  obtain ⟨k, hk, rfl, hno, hB, hE⟩ := hrel
                  haveI := hB.blt
                  have f2 : wr.cell? ⟨w.heap.size, 2, none⟩ = some (.slice a3 n3 c3) := hB.cell? 2 rfl
                  by_cases hlt : k < n3
                  · have hk0 : (0 : Int) ≤ (k : Int) := by omega
                    have hkn : (k : Int) < (n3 : Int) := by omega
                    have hkc : (k : Int) ≤ (c3 : Int) := by omega
                    have h3r := h3.ext hE
                    have h3k := h3r.take k (by omega)
                    obtain ⟨b0, o0, a', n', c', rfl, hb0, hcell, hc', hS⟩ := h3r.at k hlt
                    have hkL : k < j.ck.length := by omega
                    have hts := Lib.hid (show j.ck.take (k + 1) = j.ck.take k ++ [j.ck[k]] from List.take_succ_eq_append_getElem hkL)
                    have hbad := Lib.hid (validJ_bad (j := j) hkL)
                    generalize j.ck[k] = X at *
                    have hXl := hS.len
                    haveI := hb0
                    have gck := fun V H => jcookie_any a' n' c' X V H
                    have ghs := fun V H1 H2 => has_any (some ⟨b0, o0, none⟩) a' k c3 n' c' (j.ck.take k) X V H1 (by omega) H2
                    by_cases q1 : X.length = 104
                    · simp only [q1, decide_true] at gck
                      cases q2 : decide (X ∈ j.ck.take k)
                      · have q2' := of_decide_eq_false q2
                        simp only [q2] at ghs
                        have hno2 := Lib.hid (show (∀ b ∈ j.ck.take (k + 1), b.length = 104) ∧ (j.ck.take (k + 1)).Nodup by
                          rw [hts.out]
                          refine ⟨fun b hb => ?_, ?_⟩
                          · rcases List.mem_append.1 hb with h | h
                            · exact hno.out.1 b h
                            · rw [List.mem_singleton.1 h]; exact q1
                          · rw [List.nodup_append]
                            refine ⟨hno.out.2, by simp, fun x hx y hy e => ?_⟩
                            rw [List.mem_singleton.1 hy] at e
                            exact q2' (e ▸ hx))
                        clear q2 q2' q1 hXl
                        go_wp2_with (first
                          | (go_at_call 22; refine (gck _ (hS.ext (by repeat (first | (with_reducible first | exact Ext.refl _ | assumption | apply Ext.alloc | apply Ext.ext | apply Ext.drew | refine Ext.setCell ?_ ?_ _) | (focus (simp [go_sem]; done)))))).mono ?_; rintro e w1 ⟨rfl, hxq⟩; obtain ⟨xq, rfl⟩ := hxq.out; clear hxq)
                          | (go_at_call 27; refine (ghs _ (h3k.ext (by repeat (first | (with_reducible first | exact Ext.refl _ | assumption | apply Ext.alloc | apply Ext.ext | apply Ext.drew | refine Ext.setCell ?_ ?_ _) | (focus (simp [go_sem]; done))))) (hS.ext (by repeat (first | (with_reducible first | exact Ext.refl _ | assumption | apply Ext.alloc | apply Ext.ext | apply Ext.drew | refine Ext.setCell ?_ ?_ _) | (focus (simp [go_sem]; done)))))).mono ?_; rintro e w1 ⟨rfl, hxq⟩; obtain ⟨xq, rfl⟩ := hxq.out; clear hxq)
                          | fail)
                        go_roundw
                        case rel => exact ⟨k + 1, by omega, by go_num, hno2, hB.extB (by repeat (first | (with_reducible first | exact Ext.refl _ | assumption | apply Ext.alloc | apply Ext.ext | apply Ext.drew | refine Ext.setCell ?_ ?_ _) | (focus (simp [go_sem]; done)))), hE.trans (by repeat (first | (with_reducible first | exact Ext.refl _ | assumption | apply Ext.alloc | apply Ext.ext | apply Ext.drew | refine Ext.setCell ?_ ?_ _) | (focus (simp [go_sem]; done))))⟩
                        case measure => simp [intOf]; omega
                      · have hv := Lib.hid (hbad.out (.inr (of_decide_eq_true q2)))
                        simp only [q2] at ghs
                        clear q2 q1 hXl
                        go_wp2_with (first
                          | (go_at_call 22; refine (gck _ (hS.ext (by repeat (first | (with_reducible first | exact Ext.refl _ | assumption | apply Ext.alloc | apply Ext.ext | apply Ext.drew | refine Ext.setCell ?_ ?_ _) | (focus (simp [go_sem]; done)))))).mono ?_; rintro e w1 ⟨rfl, hxq⟩; obtain ⟨xq, rfl⟩ := hxq.out; clear hxq)
                          | (go_at_call 27; refine (ghs _ (h3k.ext (by repeat (first | (with_reducible first | exact Ext.refl _ | assumption | apply Ext.alloc | apply Ext.ext | apply Ext.drew | refine Ext.setCell ?_ ?_ _) | (focus (simp [go_sem]; done))))) (hS.ext (by repeat (first | (with_reducible first | exact Ext.refl _ | assumption | apply Ext.alloc | apply Ext.ext | apply Ext.drew | refine Ext.setCell ?_ ?_ _) | (focus (simp [go_sem]; done)))))).mono ?_; rintro e w1 ⟨rfl, hxq⟩; obtain ⟨xq, rfl⟩ := hxq.out; clear hxq)
                          | fail)
                        go_ret
                        exact ⟨by rw [hv.out]; rfl, hE.trans (by repeat (first | (with_reducible first | exact Ext.refl _ | assumption | apply Ext.alloc | apply Ext.ext | apply Ext.drew | refine Ext.setCell ?_ ?_ _) | (focus (simp [go_sem]; done))))⟩
                    · have hv := Lib.hid (hbad.out (.inl q1))
                      simp only [q1, decide_false] at gck
                      clear q1 hXl
                      go_wp2_with (first
                        | (go_at_call 22; refine (gck _ (hS.ext (by repeat (first | (with_reducible first | exact Ext.refl _ | assumption | apply Ext.alloc | apply Ext.ext | apply Ext.drew | refine Ext.setCell ?_ ?_ _) | (focus (simp [go_sem]; done)))))).mono ?_; rintro e w1 ⟨rfl, hxq⟩; obtain ⟨xq, rfl⟩ := hxq.out; clear hxq)
                        | (go_at_call 27; refine (ghs _ (h3k.ext (by repeat (first | (with_reducible first | exact Ext.refl _ | assumption | apply Ext.alloc | apply Ext.ext | apply Ext.drew | refine Ext.setCell ?_ ?_ _) | (focus (simp [go_sem]; done))))) (hS.ext (by repeat (first | (with_reducible first | exact Ext.refl _ | assumption | apply Ext.alloc | apply Ext.ext | apply Ext.drew | refine Ext.setCell ?_ ?_ _) | (focus (simp [go_sem]; done)))))).mono ?_; rintro e w1 ⟨rfl, hxq⟩; obtain ⟨xq, rfl⟩ := hxq.out; clear hxq)
                        | fail)
                      go_ret
                      exact ⟨by rw [hv.out]; rfl, hE.trans (by repeat (first | (with_reducible first | exact Ext.refl _ | assumption | apply Ext.alloc | apply Ext.ext | apply Ext.drew | refine Ext.setCell ?_ ?_ _) | (focus (simp [go_sem]; done))))⟩
                  · obtain rfl : k = n3 := by omega
                    have hkn : ¬ (k : Int) < (k : Int) := by omega
                    have hv := Lib.hid (show validJ j = true by
                      have := hno.out
                      rw [List.take_of_length_le (by omega)] at this
                      exact validJ_end hh this.1 this.2)
                    go_wp2_with fail
                    go_ret
                    exact ⟨by rw [hv.out]; rfl, hE⟩
        · have hv := Lib.hid (validJ_head (j := j) (fun h => h.2.2.2.1 (of_decide_eq_true hm)))
          simp only [hm] at hhs
          clear hm
          go_enter Try.func13, Try.ntmps13
          go_wp2_with (first
            | (go_at_call 26; refine (hpa _ (h1.ext (by repeat (first | (with_reducible first | exact Ext.refl _ | assumption | apply Ext.alloc | apply Ext.ext | apply Ext.drew | refine Ext.setCell ?_ ?_ _) | (focus (simp [go_sem]; done))))) (h2.ext (by repeat (first | (with_reducible first | exact Ext.refl _ | assumption | apply Ext.alloc | apply Ext.ext | apply Ext.drew | refine Ext.setCell ?_ ?_ _) | (focus (simp [go_sem]; done)))))).mono ?_; rintro e w1 ⟨rfl, hxq⟩; obtain ⟨xq, rfl⟩ := hxq.out; clear hxq)
            | (go_at_call 22; refine (hck _ (h4.ext (by repeat (first | (with_reducible first | exact Ext.refl _ | assumption | apply Ext.alloc | apply Ext.ext | apply Ext.drew | refine Ext.setCell ?_ ?_ _) | (focus (simp [go_sem]; done)))))).mono ?_; rintro e w1 ⟨rfl, hxq⟩; obtain ⟨xq, rfl⟩ := hxq.out; clear hxq)
            | (go_at_call 27; refine (hhs _ (h3.ext (by repeat (first | (with_reducible first | exact Ext.refl _ | assumption | apply Ext.alloc | apply Ext.ext | apply Ext.drew | refine Ext.setCell ?_ ?_ _) | (focus (simp [go_sem]; done))))) (h4.ext (by repeat (first | (with_reducible first | exact Ext.refl _ | assumption | apply Ext.alloc | apply Ext.ext | apply Ext.drew | refine Ext.setCell ?_ ?_ _) | (focus (simp [go_sem]; done)))))).mono ?_; rintro e w1 ⟨rfl, hxq⟩; obtain ⟨xq, rfl⟩ := hxq.out; clear hxq)
            | fail)
          go_ret
          exact ⟨by rw [hv.out]; rfl, (by repeat (first | (with_reducible first | exact Ext.refl _ | assumption | apply Ext.alloc | apply Ext.ext | apply Ext.drew | refine Ext.setCell ?_ ?_ _) | (focus (simp [go_sem]; done))))⟩
      · have i0 : (0 : Int) < (n4 : Int) := by omega
        have i00 : 0 < n4 := by omega
        by_cases z1 : n4 = 104
        · have z2 : j.last.length = 104 := by omega
          simp only [z2, decide_true] at hck
          clear z0 i0 i00
          subst z1
          cases hm : decide (j.last ∈ j.ck)
          · have hm' := of_decide_eq_false hm
            simp only [hm] at hhs
            clear hm
            by_cases m1 : j.net < 0
            · have hv := Lib.hid (validJ_head (j := j) (fun h => by have := h.2.2.2.2.1; omega))
              go_enter Try.func13, Try.ntmps13
              go_wp2_with (first
                | (go_at_call 26; refine (hpa _ (h1.ext (by repeat (first | (with_reducible first | exact Ext.refl _ | assumption | apply Ext.alloc | apply Ext.ext | apply Ext.drew | refine Ext.setCell ?_ ?_ _) | (focus (simp [go_sem]; done))))) (h2.ext (by repeat (first | (with_reducible first | exact Ext.refl _ | assumption | apply Ext.alloc | apply Ext.ext | apply Ext.drew | refine Ext.setCell ?_ ?_ _) | (focus (simp [go_sem]; done)))))).mono ?_; rintro e w1 ⟨rfl, hxq⟩; obtain ⟨xq, rfl⟩ := hxq.out; clear hxq)
                | (go_at_call 22; refine (hck _ (h4.ext (by repeat (first | (with_reducible first | exact Ext.refl _ | assumption | apply Ext.alloc | apply Ext.ext | apply Ext.drew | refine Ext.setCell ?_ ?_ _) | (focus (simp [go_sem]; done)))))).mono ?_; rintro e w1 ⟨rfl, hxq⟩; obtain ⟨xq, rfl⟩ := hxq.out; clear hxq)
                | (go_at_call 27; refine (hhs _ (h3.ext (by repeat (first | (with_reducible first | exact Ext.refl _ | assumption | apply Ext.alloc | apply Ext.ext | apply Ext.drew | refine Ext.setCell ?_ ?_ _) | (focus (simp [go_sem]; done))))) (h4.ext (by repeat (first | (with_reducible first | exact Ext.refl _ | assumption | apply Ext.alloc | apply Ext.ext | apply Ext.drew | refine Ext.setCell ?_ ?_ _) | (focus (simp [go_sem]; done)))))).mono ?_; rintro e w1 ⟨rfl, hxq⟩; obtain ⟨xq, rfl⟩ := hxq.out; clear hxq)
                | fail)
              go_ret
              exact ⟨by rw [hv.out]; rfl, (by repeat (first | (with_reducible first | exact Ext.refl _ | assumption | apply Ext.alloc | apply Ext.ext | apply Ext.drew | refine Ext.setCell ?_ ?_ _) | (focus (simp [go_sem]; done))))⟩
            · by_cases m2 : j.sent < 0
              · have hv := Lib.hid (validJ_head (j := j) (fun h => by have := h.2.2.2.2.2.1; omega))
                go_enter Try.func13, Try.ntmps13
                go_wp2_with (first
                  | (go_at_call 26; refine (hpa _ (h1.ext (by repeat (first | (with_reducible first | exact Ext.refl _ | assumption | apply Ext.alloc | apply Ext.ext | apply Ext.drew | refine Ext.setCell ?_ ?_ _) | (focus (simp [go_sem]; done))))) (h2.ext (by repeat (first | (with_reducible first | exact Ext.refl _ | assumption | apply Ext.alloc | apply Ext.ext | apply Ext.drew | refine Ext.setCell ?_ ?_ _) | (focus (simp [go_sem]; done)))))).mono ?_; rintro e w1 ⟨rfl, hxq⟩; obtain ⟨xq, rfl⟩ := hxq.out; clear hxq)
                  | (go_at_call 22; refine (hck _ (h4.ext (by repeat (first | (with_reducible first | exact Ext.refl _ | assumption | apply Ext.alloc | apply Ext.ext | apply Ext.drew | refine Ext.setCell ?_ ?_ _) | (focus (simp [go_sem]; done)))))).mono ?_; rintro e w1 ⟨rfl, hxq⟩; obtain ⟨xq, rfl⟩ := hxq.out; clear hxq)
                  | (go_at_call 27; refine (hhs _ (h3.ext (by repeat (first | (with_reducible first | exact Ext.refl _ | assumption | apply Ext.alloc | apply Ext.ext | apply Ext.drew | refine Ext.setCell ?_ ?_ _) | (focus (simp [go_sem]; done))))) (h4.ext (by repeat (first | (with_reducible first | exact Ext.refl _ | assumption | apply Ext.alloc | apply Ext.ext | apply Ext.drew | refine Ext.setCell ?_ ?_ _) | (focus (simp [go_sem]; done)))))).mono ?_; rintro e w1 ⟨rfl, hxq⟩; obtain ⟨xq, rfl⟩ := hxq.out; clear hxq)
                  | fail)
                go_ret
                exact ⟨by rw [hv.out]; rfl, (by repeat (first | (with_reducible first | exact Ext.refl _ | assumption | apply Ext.alloc | apply Ext.ext | apply Ext.drew | refine Ext.setCell ?_ ?_ _) | (focus (simp [go_sem]; done))))⟩
              · by_cases m3 : 1099511627776 < j.sent
                · have hv := Lib.hid (validJ_head (j := j) (fun h => by have := h.2.2.2.2.2.2; omega))
                  go_enter Try.func13, Try.ntmps13
                  go_wp2_with (first
                    | (go_at_call 26; refine (hpa _ (h1.ext (by repeat (first | (with_reducible first | exact Ext.refl _ | assumption | apply Ext.alloc | apply Ext.ext | apply Ext.drew | refine Ext.setCell ?_ ?_ _) | (focus (simp [go_sem]; done))))) (h2.ext (by repeat (first | (with_reducible first | exact Ext.refl _ | assumption | apply Ext.alloc | apply Ext.ext | apply Ext.drew | refine Ext.setCell ?_ ?_ _) | (focus (simp [go_sem]; done)))))).mono ?_; rintro e w1 ⟨rfl, hxq⟩; obtain ⟨xq, rfl⟩ := hxq.out; clear hxq)
                    | (go_at_call 22; refine (hck _ (h4.ext (by repeat (first | (with_reducible first | exact Ext.refl _ | assumption | apply Ext.alloc | apply Ext.ext | apply Ext.drew | refine Ext.setCell ?_ ?_ _) | (focus (simp [go_sem]; done)))))).mono ?_; rintro e w1 ⟨rfl, hxq⟩; obtain ⟨xq, rfl⟩ := hxq.out; clear hxq)
                    | (go_at_call 27; refine (hhs _ (h3.ext (by repeat (first | (with_reducible first | exact Ext.refl _ | assumption | apply Ext.alloc | apply Ext.ext | apply Ext.drew | refine Ext.setCell ?_ ?_ _) | (focus (simp [go_sem]; done))))) (h4.ext (by repeat (first | (with_reducible first | exact Ext.refl _ | assumption | apply Ext.alloc | apply Ext.ext | apply Ext.drew | refine Ext.setCell ?_ ?_ _) | (focus (simp [go_sem]; done)))))).mono ?_; rintro e w1 ⟨rfl, hxq⟩; obtain ⟨xq, rfl⟩ := hxq.out; clear hxq)
                    | fail)
                  go_ret
                  exact ⟨by rw [hv.out]; rfl, (by repeat (first | (with_reducible first | exact Ext.refl _ | assumption | apply Ext.alloc | apply Ext.ext | apply Ext.drew | refine Ext.setCell ?_ ?_ _) | (focus (simp [go_sem]; done))))⟩
                · have hh : headJ j := ⟨hp', by omega, by omega, hm', by omega, by omega, by omega⟩
                  clear hp' hm'
                  go_enter Try.func13, Try.ntmps13
                  go_wp2_with (first
                    | (go_at_call 26; refine (hpa _ (h1.ext (by repeat (first | (with_reducible first | exact Ext.refl _ | assumption | apply Ext.alloc | apply Ext.ext | apply Ext.drew | refine Ext.setCell ?_ ?_ _) | (focus (simp [go_sem]; done))))) (h2.ext (by repeat (first | (with_reducible first | exact Ext.refl _ | assumption | apply Ext.alloc | apply Ext.ext | apply Ext.drew | refine Ext.setCell ?_ ?_ _) | (focus (simp [go_sem]; done)))))).mono ?_; rintro e w1 ⟨rfl, hxq⟩; obtain ⟨xq, rfl⟩ := hxq.out; clear hxq)
                    | (go_at_call 22; refine (hck _ (h4.ext (by repeat (first | (with_reducible first | exact Ext.refl _ | assumption | apply Ext.alloc | apply Ext.ext | apply Ext.drew | refine Ext.setCell ?_ ?_ _) | (focus (simp [go_sem]; done)))))).mono ?_; rintro e w1 ⟨rfl, hxq⟩; obtain ⟨xq, rfl⟩ := hxq.out; clear hxq)
                    | (go_at_call 27; refine (hhs _ (h3.ext (by repeat (first | (with_reducible first | exact Ext.refl _ | assumption | apply Ext.alloc | apply Ext.ext | apply Ext.drew | refine Ext.setCell ?_ ?_ _) | (focus (simp [go_sem]; done))))) (h4.ext (by repeat (first | (with_reducible first | exact Ext.refl _ | assumption | apply Ext.alloc | apply Ext.ext | apply Ext.drew | refine Ext.setCell ?_ ?_ _) | (focus (simp [go_sem]; done)))))).mono ?_; rintro e w1 ⟨rfl, hxq⟩; obtain ⟨xq, rfl⟩ := hxq.out; clear hxq)
                    | fail)
                  refine nameW ?_
                  intro W hW
                  have hEW : Ext w W := by rw [hW]; exact (by repeat (first | (with_reducible first | exact Ext.refl _ | assumption | apply Ext.alloc | apply Ext.ext | apply Ext.drew | refine Ext.setCell ?_ ?_ _) | (focus (simp [go_sem]; done))))
                  have hB : Blk W w.heap.size 30 [.slice a1 n1 c1, .slice a2 n2 c2, .slice a3 n3 c3, .slice a4 104 c4, .int .i64 j.net, .int .i64 j.sent] := by rw [hW]; exact (by repeat (first | assumption | (refine Blk.newAt _ _ _ _ ?_; first | rfl | (simp only [World.size_alloc]; done)) | apply Blk.ext | apply Blk.alloc | (refine Blk.other ?_ ?_ _; rotate_left; (simp <;> omega))))
                  clear hW hpa hck hhs
                  haveI := hB.blt
                  have f2 : W.cell? ⟨w.heap.size, 2, none⟩ = some (.slice a3 n3 c3) := hB.cell? 2 rfl
                  go_wp2_with fail
                  clear f2
                  go_loopw [3, 4, 52] (fun _ _ v52 wr => ∃ k : Nat, k ≤ n3 ∧ v52 = .int .i64 k ∧ Hid ((∀ b ∈ j.ck.take k, b.length = 104) ∧ (j.ck.take k).Nodup) ∧ Blk wr w.heap.size 30 [.slice a1 n1 c1, .slice a2 n2 c2, .slice a3 n3 c3, .slice a4 104 c4, .int .i64 j.net, .int .i64 j.sent] ∧ Ext w wr) (fun _ _ v52 _ => n3 - (intOf v52).toNat)
                  case atStart => exact ⟨0, Nat.zero_le _, rfl, Lib.hid ⟨by simp, by simp⟩, hB, hEW⟩
                  case round =>
                    clear hB hEW
                    obtain ⟨k, hk, rfl, hno, hB, hE⟩ := hrel
                    haveI := hB.blt
                    have f2 : wr.cell? ⟨w.heap.size, 2, none⟩ = some (.slice a3 n3 c3) := hB.cell? 2 rfl
                    by_cases hlt : k < n3
                    · have hk0 : (0 : Int) ≤ (k : Int) := by omega
                      have hkn : (k : Int) < (n3 : Int) := by omega
                      have hkc : (k : Int) ≤ (c3 : Int) := by omega
                      have h3r := h3.ext hE
                      have h3k := h3r.take k (by omega)
                      obtain ⟨b0, o0, a', n', c', rfl, hb0, hcell, hc', hS⟩ := h3r.at k hlt
                      have hkL : k < j.ck.length := by omega
                      have hts := Lib.hid (show j.ck.take (k + 1) = j.ck.take k ++ [j.ck[k]] from List.take_succ_eq_append_getElem hkL)
                      have hbad := Lib.hid (validJ_bad (j := j) hkL)
                      generalize j.ck[k] = X at *
                      have hXl := hS.len
                      haveI := hb0
                      have gck := fun V H => jcookie_any a' n' c' X V H
                      have ghs := fun V H1 H2 => has_any (some ⟨b0, o0, none⟩) a' k c3 n' c' (j.ck.take k) X V H1 (by omega) H2
                      by_cases q1 : X.length = 104
                      · simp only [q1, decide_true] at gck
                        cases q2 : decide (X ∈ j.ck.take k)
                        · have q2' := of_decide_eq_false q2
                          simp only [q2] at ghs
                          have hno2 := Lib.hid (show (∀ b ∈ j.ck.take (k + 1), b.length = 104) ∧ (j.ck.take (k + 1)).Nodup by
                            rw [hts.out]
                            refine ⟨fun b hb => ?_, ?_⟩
                            · rcases List.mem_append.1 hb with h | h
                              · exact hno.out.1 b h
                              · rw [List.mem_singleton.1 h]; exact q1
                            · rw [List.nodup_append]
                              refine ⟨hno.out.2, by simp, fun x hx y hy e => ?_⟩
                              rw [List.mem_singleton.1 hy] at e
                              exact q2' (e ▸ hx))
                          clear q2 q2' q1 hXl
                          go_wp2_with (first
                            | (go_at_call 22; refine (gck _ (hS.ext (by repeat (first | (with_reducible first | exact Ext.refl _ | assumption | apply Ext.alloc | apply Ext.ext | apply Ext.drew | refine Ext.setCell ?_ ?_ _) | (focus (simp [go_sem]; done)))))).mono ?_; rintro e w1 ⟨rfl, hxq⟩; obtain ⟨xq, rfl⟩ := hxq.out; clear hxq)
                            | (go_at_call 27; refine (ghs _ (h3k.ext (by repeat (first | (with_reducible first | exact Ext.refl _ | assumption | apply Ext.alloc | apply Ext.ext | apply Ext.drew | refine Ext.setCell ?_ ?_ _) | (focus (simp [go_sem]; done))))) (hS.ext (by repeat (first | (with_reducible first | exact Ext.refl _ | assumption | apply Ext.alloc | apply Ext.ext | apply Ext.drew | refine Ext.setCell ?_ ?_ _) | (focus (simp [go_sem]; done)))))).mono ?_; rintro e w1 ⟨rfl, hxq⟩; obtain ⟨xq, rfl⟩ := hxq.out; clear hxq)
                            | fail)
                          go_roundw
                          case rel => exact ⟨k + 1, by omega, by go_num, hno2, hB.extB (by repeat (first | (with_reducible first | exact Ext.refl _ | assumption | apply Ext.alloc | apply Ext.ext | apply Ext.drew | refine Ext.setCell ?_ ?_ _) | (focus (simp [go_sem]; done)))), hE.trans (by repeat (first | (with_reducible first | exact Ext.refl _ | assumption | apply Ext.alloc | apply Ext.ext | apply Ext.drew | refine Ext.setCell ?_ ?_ _) | (focus (simp [go_sem]; done))))⟩
                          case measure => simp [intOf]; omega
                        · have hv := Lib.hid (hbad.out (.inr (of_decide_eq_true q2)))
                          simp only [q2] at ghs
                          clear q2 q1 hXl
                          go_wp2_with (first
                            | (go_at_call 22; refine (gck _ (hS.ext (by repeat (first | (with_reducible first | exact Ext.refl _ | assumption | apply Ext.alloc | apply Ext.ext | apply Ext.drew | refine Ext.setCell ?_ ?_ _) | (focus (simp [go_sem]; done)))))).mono ?_; rintro e w1 ⟨rfl, hxq⟩; obtain ⟨xq, rfl⟩ := hxq.out; clear hxq)
                            | (go_at_call 27; refine (ghs _ (h3k.ext (by repeat (first | (with_reducible first | exact Ext.refl _ | assumption | apply Ext.alloc | apply Ext.ext | apply Ext.drew | refine Ext.setCell ?_ ?_ _) | (focus (simp [go_sem]; done))))) (hS.ext (by repeat (first | (with_reducible first | exact Ext.refl _ | assumption | apply Ext.alloc | apply Ext.ext | apply Ext.drew | refine Ext.setCell ?_ ?_ _) | (focus (simp [go_sem]; done)))))).mono ?_; rintro e w1 ⟨rfl, hxq⟩; obtain ⟨xq, rfl⟩ := hxq.out; clear hxq)
                            | fail)
                          go_ret
                          exact ⟨by rw [hv.out]; rfl, hE.trans (by repeat (first | (with_reducible first | exact Ext.refl _ | assumption | apply Ext.alloc | apply Ext.ext | apply Ext.drew | refine Ext.setCell ?_ ?_ _) | (focus (simp [go_sem]; done))))⟩
                      · have hv := Lib.hid (hbad.out (.inl q1))
                        simp only [q1, decide_false] at gck
                        clear q1 hXl
                        go_wp2_with (first
                          | (go_at_call 22; refine (gck _ (hS.ext (by repeat (first | (with_reducible first | exact Ext.refl _ | assumption | apply Ext.alloc | apply Ext.ext | apply Ext.drew | refine Ext.setCell ?_ ?_ _) | (focus (simp [go_sem]; done)))))).mono ?_; rintro e w1 ⟨rfl, hxq⟩; obtain ⟨xq, rfl⟩ := hxq.out; clear hxq)
                          | (go_at_call 27; refine (ghs _ (h3k.ext (by repeat (first | (with_reducible first | exact Ext.refl _ | assumption | apply Ext.alloc | apply Ext.ext | apply Ext.drew | refine Ext.setCell ?_ ?_ _) | (focus (simp [go_sem]; done))))) (hS.ext (by repeat (first | (with_reducible first | exact Ext.refl _ | assumption | apply Ext.alloc | apply Ext.ext | apply Ext.drew | refine Ext.setCell ?_ ?_ _) | (focus (simp [go_sem]; done)))))).mono ?_; rintro e w1 ⟨rfl, hxq⟩; obtain ⟨xq, rfl⟩ := hxq.out; clear hxq)
                          | fail)
                        go_ret
                        exact ⟨by rw [hv.out]; rfl, hE.trans (by repeat (first | (with_reducible first | exact Ext.refl _ | assumption | apply Ext.alloc | apply Ext.ext | apply Ext.drew | refine Ext.setCell ?_ ?_ _) | (focus (simp [go_sem]; done))))⟩
                    · obtain rfl : k = n3 := by omega
                      have hkn : ¬ (k : Int) < (k : Int) := by omega
                      have hv := Lib.hid (show validJ j = true by
                        have := hno.out
                        rw [List.take_of_length_le (by omega)] at this
                        exact validJ_end hh this.1 this.2)
                      go_wp2_with fail
                      go_ret
                      exact ⟨by rw [hv.out]; rfl, hE⟩
          · have hv := Lib.hid (validJ_head (j := j) (fun h => h.2.2.2.1 (of_decide_eq_true hm)))
            simp only [hm] at hhs
            clear hm
            go_enter Try.func13, Try.ntmps13
            go_wp2_with (first
              | (go_at_call 26; refine (hpa _ (h1.ext (by repeat (first | (with_reducible first | exact Ext.refl _ | assumption | apply Ext.alloc | apply Ext.ext | apply Ext.drew | refine Ext.setCell ?_ ?_ _) | (focus (simp [go_sem]; done))))) (h2.ext (by repeat (first | (with_reducible first | exact Ext.refl _ | assumption | apply Ext.alloc | apply Ext.ext | apply Ext.drew | refine Ext.setCell ?_ ?_ _) | (focus (simp [go_sem]; done)))))).mono ?_; rintro e w1 ⟨rfl, hxq⟩; obtain ⟨xq, rfl⟩ := hxq.out; clear hxq)
              | (go_at_call 22; refine (hck _ (h4.ext (by repeat (first | (with_reducible first | exact Ext.refl _ | assumption | apply Ext.alloc | apply Ext.ext | apply Ext.drew | refine Ext.setCell ?_ ?_ _) | (focus (simp [go_sem]; done)))))).mono ?_; rintro e w1 ⟨rfl, hxq⟩; obtain ⟨xq, rfl⟩ := hxq.out; clear hxq)
              | (go_at_call 27; refine (hhs _ (h3.ext (by repeat (first | (with_reducible first | exact Ext.refl _ | assumption | apply Ext.alloc | apply Ext.ext | apply Ext.drew | refine Ext.setCell ?_ ?_ _) | (focus (simp [go_sem]; done))))) (h4.ext (by repeat (first | (with_reducible first | exact Ext.refl _ | assumption | apply Ext.alloc | apply Ext.ext | apply Ext.drew | refine Ext.setCell ?_ ?_ _) | (focus (simp [go_sem]; done)))))).mono ?_; rintro e w1 ⟨rfl, hxq⟩; obtain ⟨xq, rfl⟩ := hxq.out; clear hxq)
              | fail)
            go_ret
            exact ⟨by rw [hv.out]; rfl, (by repeat (first | (with_reducible first | exact Ext.refl _ | assumption | apply Ext.alloc | apply Ext.ext | apply Ext.drew | refine Ext.setCell ?_ ?_ _) | (focus (simp [go_sem]; done))))⟩
        · have z2 : ¬ j.last.length = 104 := by omega
          have hv := Lib.hid (validJ_head (j := j) (fun h => by have := h.2.2.1; omega))
          simp only [z2, decide_false] at hck
          go_enter Try.func13, Try.ntmps13
          go_wp2_with (first
            | (go_at_call 26; refine (hpa _ (h1.ext (by repeat (first | (with_reducible first | exact Ext.refl _ | assumption | apply Ext.alloc | apply Ext.ext | apply Ext.drew | refine Ext.setCell ?_ ?_ _) | (focus (simp [go_sem]; done))))) (h2.ext (by repeat (first | (with_reducible first | exact Ext.refl _ | assumption | apply Ext.alloc | apply Ext.ext | apply Ext.drew | refine Ext.setCell ?_ ?_ _) | (focus (simp [go_sem]; done)))))).mono ?_; rintro e w1 ⟨rfl, hxq⟩; obtain ⟨xq, rfl⟩ := hxq.out; clear hxq)
            | (go_at_call 22; refine (hck _ (h4.ext (by repeat (first | (with_reducible first | exact Ext.refl _ | assumption | apply Ext.alloc | apply Ext.ext | apply Ext.drew | refine Ext.setCell ?_ ?_ _) | (focus (simp [go_sem]; done)))))).mono ?_; rintro e w1 ⟨rfl, hxq⟩; obtain ⟨xq, rfl⟩ := hxq.out; clear hxq)
            | (go_at_call 27; refine (hhs _ (h3.ext (by repeat (first | (with_reducible first | exact Ext.refl _ | assumption | apply Ext.alloc | apply Ext.ext | apply Ext.drew | refine Ext.setCell ?_ ?_ _) | (focus (simp [go_sem]; done))))) (h4.ext (by repeat (first | (with_reducible first | exact Ext.refl _ | assumption | apply Ext.alloc | apply Ext.ext | apply Ext.drew | refine Ext.setCell ?_ ?_ _) | (focus (simp [go_sem]; done)))))).mono ?_; rintro e w1 ⟨rfl, hxq⟩; obtain ⟨xq, rfl⟩ := hxq.out; clear hxq)
            | fail)
          go_ret
          exact ⟨by rw [hv.out]; rfl, (by repeat (first | (with_reducible first | exact Ext.refl _ | assumption | apply Ext.alloc | apply Ext.ext | apply Ext.drew | refine Ext.setCell ?_ ?_ _) | (focus (simp [go_sem]; done))))⟩
end Go.Proofs.Ytdmifbfgeeldnaa

/- The walks of layer 22: clone. -/
namespace Go.Sec
open Go.RowKit
theorem OwnB.blk {w : World} {base n c : Nat} {a : Option Addr} {L : List (List UInt8)} (h : OwnB w base a n c L) {b : Nat} {t : TypeId} {vs : List Value} (hB : Blk w b t vs) (ht : t ≠ 25) : (Value.slice a n c).ownBlock ≠ some b := by
  obtain ⟨_, xs, h2, _⟩ := h
  exact own_type h2 hB ht
theorem OwnB.mut {t : TypeId} {w w' : World} {base n c g : Nat} {a : Option Addr} {L : List (List UInt8)} {vs : List Value} (h : OwnB w base a n c L) (hB : Blk w g t vs) (ht : t ≠ 25) (hne : ∀ v ∈ vs, ∀ x, v ≠ .int .u8 x) (hM : Mut g w w') : OwnB w' base a n c L := by
  have hno := h.blk hB ht
  obtain ⟨h1, xs, h2, h3, h4⟩ := h
  refine ⟨h1, xs, ⟨h2.1, ?_⟩, h3, fun k hk => ?_⟩
  · rcases h2.2 with h | ⟨g', cap, cur, hv, hb, hh, r⟩
    · exact .inl h
    · refine .inr ⟨g', cap, cur, hv, hb, ?_, r⟩
      rw [hM.block g' (Array.getElem?_eq_some_iff.1 hh).1 (fun e => hno (by rw [hv]; exact e))]
      exact hh
  · obtain ⟨a', n', c', e1, e2, e3, e4⟩ := h4 k hk
    refine ⟨a', n', c', e1, e2, e3.mut hB hne hM, ?_⟩
    rcases e4 with e4 | e4
    · exact .inl e4
    · by_cases h0 : n' = 0
      · exact .inl h0
      · refine .inr fun b o e => ?_
        rcases e4 b o e with h | ⟨t', vs', hB', ht'⟩
        · exact .inl h
        · refine .inr ⟨t', vs', Blk.turn hM hB' ?_, ht'⟩
          subst e
          exact sl_off_blk e3 (by omega) hB hne
/-- .. from some place on. -/
def OwnBX (B0 : Nat) (w : World) (a : Option Addr) (n c : Nat) (L : List (List UInt8)) : Prop := ∃ B, B0 ≤ B ∧ B ≤ w.heap.size ∧ OwnB w B a n c L
theorem OwnBX.ext {B0 n c : Nat} {w w' : World} {a : Option Addr} {L : List (List UInt8)} (h : OwnBX B0 w a n c L) (hx : Ext w w') : OwnBX B0 w' a n c L := by
  obtain ⟨B, h1, h2, h3⟩ := h
  exact ⟨B, h1, Nat.le_trans h2 hx.size, h3.ext hx⟩
theorem OwnBX.mut {t : TypeId} {B0 n c g : Nat} {w w' : World} {a : Option Addr} {L : List (List UInt8)} {vs : List Value} (h : OwnBX B0 w a n c L) (hB : Blk w g t vs) (ht : t ≠ 25) (hne : ∀ v ∈ vs, ∀ x, v ≠ .int .u8 x) (hM : Mut g w w') : OwnBX B0 w' a n c L := by
  obtain ⟨B, h1, h2, h3⟩ := h
  exact ⟨B, h1, Nat.le_trans h2 hM.size, h3.mut hB ht hne hM⟩
theorem Own.blkOf {w : World} {base n c : Nat} {a : Option Addr} {l : List UInt8} (h : Own w base a n c l) {g : Nat} (hg : (Value.slice a n c).ownBlock = some g) : ∃ vs, Blk w g 5 vs := by
  rcases h.2.2 with ⟨h1, h2⟩ | ⟨g', cap, cur, hv, h2, h3, _⟩
  · injection h1 with h1; subst h1; cases hg
  · injection hv with h1; subst h1
    have hg : g' = g := Option.some.inj hg
    subst hg
    exact ⟨cur.toList, by unfold Blk; simpa using h3⟩
theorem Own.mutT {t : TypeId} {w w' : World} {base n c g : Nat} {a : Option Addr} {l : List UInt8} {vs : List Value} (h : Own w base a n c l) (hB : Blk w g t vs) (ht : t ≠ 5) (hM : Mut g w w') : Own w' base a n c l := by
  have hno := own_type h.2 hB ht
  refine ⟨h.1, h.2.1, ?_⟩
  rcases h.2.2 with h1 | ⟨g', cap, cur, hv, hb, hh, r⟩
  · exact .inl h1
  · refine .inr ⟨g', cap, cur, hv, hb, ?_, r⟩
    rw [hM.block g' (Array.getElem?_eq_some_iff.1 hh).1 (fun e => hno (by rw [hv]; exact e))]
    exact hh
/-- Bytes in a row of bytes stay where a row of slices grows. -/
theorem Own.grownB {w w' : World} {base base' n c m d : Nat} {a b : Option Addr} {l : List UInt8} {L : List (List UInt8)} (h : Own w base a n c l) (hO : OwnB w base' b m d L) (hg : w.grownBy w' (Value.slice b m d).ownBlock) : Own w' base a n c l := by
  refine ⟨h.1, h.2.1, ?_⟩
  rcases h.2.2 with h1 | ⟨g', cap, cur, hv, hb, hh, r⟩
  · exact .inl h1
  · refine .inr ⟨g', cap, cur, hv, hb, ?_, r⟩
    have hB : Blk w g' 5 cur.toList := by unfold Blk; simpa using hh
    rw [hg.block g' (Array.getElem?_eq_some_iff.1 hh).1 (fun e => hO.blk hB (by decide) e.symm)]
    exact hh
end Go.Sec
namespace Go.Proofs.Ytdmifbfgeeldnaa
open Go.RowKit Go.Sec Go.Oct Go.Jar BigFrame

theorem RJ6 : RowT Try.prog 30 6 := ⟨⟨_, Try.underlying30, rfl⟩, by kernel_rfl, ⟨_, Try.zeroValue30, by kernel_rfl⟩⟩
theorem RPj : RowT Try.prog 27 2 := ⟨⟨_, Try.underlying27, rfl⟩, by kernel_rfl, ⟨_, Try.zeroValue27, by kernel_rfl⟩⟩
/-- A jar in new memory, its cookies in a row of the call's own. -/
def JarO (j : Jar) (n1 n2 n3 n4 : Nat) (w : World) (e : Ending) (w' : World) : Prop := ∃ b1 d1 b2 d2 b3 d3 b4 d4, e = .returned (.agg #[.slice b1 n1 d1, .slice b2 n2 d2, .slice b3 n3 d3, .slice b4 n4 d4, .int .i64 j.net, .int .i64 j.sent]) ∧
  Own w' 0 b1 n1 d1 j.up ∧ Own w' 0 b2 n2 d2 j.dn ∧ OwnBX w.heap.size w' b3 n3 d3 j.ck ∧ Own w' 0 b4 n4 d4 j.last ∧ Ext w w'
set_option maxRecDepth 100000 in
set_option maxHeartbeats 8000000 in
theorem jclone_any (a1 a2 a3 a4 : Option Addr) (n1 c1 n2 c2 n3 c3 n4 c4 : Nat) (j : Jar) (w : World) (h1 : Sl w a1 n1 j.up) (m1 : n1 ≤ 1000000) (h2 : Sl w a2 n2 j.dn) (m2 : n2 ≤ 1000000) (h3 : Bsc w a3 n3 j.ck) (hn3 : n3 ≤ 100000) (hb3 : ∀ x ∈ j.ck, x.length ≤ 1000000) (h4 : Sl w a4 n4 j.last) (m4 : n4 ≤ 1000000) :
    Calls Try.prog 24 #[.agg #[.slice a1 n1 c1, .slice a2 n2 c2, .slice a3 n3 c3, .slice a4 n4 c4, .int .i64 j.net, .int .i64 j.sent]] w (JarO j n1 n2 n3 n4 w) := by
  go_enter Try.func24, Try.ntmps24
  go_wp2
  obtain ⟨W, hW⟩ : ∃ W, W = (w.alloc (.cells #[.slice a1 n1 c1, .slice a2 n2 c2, .slice a3 n3 c3, .slice a4 n4 c4, .int .i64 j.net, .int .i64 j.sent] 30)).alloc (.cells #[.slice none 0 0, .slice none 0 0, .slice none 0 0, .slice none 0 0, .int .i64 0, .int .i64 0] 30) := ⟨_, rfl⟩
  have hEW : Ext w W := by rw [hW]; exact (by repeat (first | (with_reducible first | exact Ext.refl _ | assumption | apply Ext.alloc | apply Ext.ext | apply Ext.drew | refine Ext.setCell ?_ ?_ _) | (focus (simp [go_sem]; done))))
  have hB : Blk W w.heap.size 30 [.slice a1 n1 c1, .slice a2 n2 c2, .slice a3 n3 c3, .slice a4 n4 c4, .int .i64 j.net, .int .i64 j.sent] := by rw [hW]; exact (by repeat (first | assumption | (refine Blk.newAt _ _ _ _ ?_; first | rfl | (simp only [World.size_alloc]; done)) | apply Blk.ext | apply Blk.alloc | (refine Blk.other ?_ ?_ _; rotate_left; (simp <;> omega))))
  have hR : Blk W (w.heap.size + 1) 30 [.slice none 0 0, .slice none 0 0, .slice none 0 0, .slice none 0 0, .int .i64 0, .int .i64 0] := by rw [hW]; exact (by repeat (first | assumption | (refine Blk.newAt _ _ _ _ ?_; first | rfl | (simp only [World.size_alloc]; done)) | apply Blk.ext | apply Blk.alloc | (refine Blk.other ?_ ?_ _; rotate_left; (simp <;> omega))))
  rw [← hW]
  clear hW
  haveI := hB.blt
  have f0 := hB.cell? 0 rfl
  have f1 : W.cell? ⟨w.heap.size, 1, none⟩ = some (.slice a2 n2 c2) := hB.cell? 1 rfl
  have g1 := h1.ext hEW
  have g2 := h2.ext hEW
  refine wp_region_vague 9 [[], [0], [0, 1], [0, 1, 2], [], [4], [4, 5], [0, 1, 2, 3, 4, 5, 6], [0, 1, 2, 3, 4, 5, 6, 7], [0, 1, 2, 3, 4, 5, 6, 7, 8], [0, 1, 2, 3, 4, 5, 6, 7, 8, 9]] (by kernel_rfl) (by kernel_rfl) (by kernel_rfl) (by kernel_rfl) ?_; simp only [List.take_succ_cons, List.take_zero, List.drop_succ_cons, List.drop_zero, List.take_nil, List.drop_nil]
  (repeat (apply VD_der; (case h => (intro us w' hx hf; obtain ⟨x, rfl⟩ := hx.out; refine ⟨rfl, ?_⟩; simp [go_sem, execOp, *]; (try simp (disch := omega) only [Go.IntWalk.i64_in, Go.IntWalk.rem_in, Go.IntWalk.wrap64_in]); rfl)); (try simp only [Act.put, List.setIfInBounds_toArray, List.set_cons_succ, List.set_cons_zero])))
  (refine VD_vag (fun p => .slice (p 0).1 (n1) (p 0).2) (fun p w'' => Own w'' 0 (p 0).1 (n1) (p 0).2 (j.up)) (fun p w w' h hx => h.ext hx) (fun us w' hx hf => ⟨rfl, ?_⟩) ?_; (unfold gives; simp [go_sem, execOp]; exact vag_fresh (Nat.zero_le _) (clone_any a1 n1 c1 j.up _ (g1.ext hx) (by omega))))
  (repeat (apply VD_der; (case h => (intro us w' hx hf; obtain ⟨x, rfl⟩ := hx.out; refine ⟨rfl, ?_⟩; simp [go_sem, execOp, *]; (try simp (disch := omega) only [Go.IntWalk.i64_in, Go.IntWalk.rem_in, Go.IntWalk.wrap64_in]); rfl)); (try simp only [Act.put, List.setIfInBounds_toArray, List.set_cons_succ, List.set_cons_zero])))
  (refine VD_vag (fun p => .slice (p 0).1 (n2) (p 0).2) (fun p w'' => Own w'' 0 (p 0).1 (n2) (p 0).2 (j.dn)) (fun p w w' h hx => h.ext hx) (fun us w' hx hf => ⟨rfl, ?_⟩) ?_; (unfold gives; simp [go_sem, execOp]; exact vag_fresh (Nat.zero_le _) (clone_any a2 n2 c2 j.dn _ (g2.ext hx) (by omega))))
  (repeat (apply VD_der; (case h => (intro us w' hx hf; obtain ⟨x, rfl⟩ := hx.out; refine ⟨rfl, ?_⟩; simp [go_sem, execOp, *]; (try simp (disch := omega) only [Go.IntWalk.i64_in, Go.IntWalk.rem_in, Go.IntWalk.wrap64_in]); rfl)); (try simp only [Act.put, List.setIfInBounds_toArray, List.set_cons_succ, List.set_cons_zero])))
  (refine VD_nil ?_; intro us w' hx hf; obtain ⟨x, rfl⟩ := hx.out; (try simp only [Act.put, List.setIfInBounds_toArray, List.set_cons_succ, List.set_cons_zero, wpList_none]); (try simp only [List.mem_cons, List.not_mem_nil, or_false, forall_eq_or_imp, forall_eq, List.nil_append, List.cons_append, List.mem_append, false_or, true_and, and_true] at hf); (try simp only [Nat.reduceAdd, Nat.zero_add] at hf); (try simp only [Nat.reduceAdd, Nat.zero_add]))
  obtain ⟨hO1, hO2⟩ := hf
  obtain ⟨b1, hb1⟩ : ∃ a, (us 3 0).1 = a := ⟨_, rfl⟩
  obtain ⟨d1, hd1⟩ : ∃ a, (us 3 0).2 = a := ⟨_, rfl⟩
  obtain ⟨b2, hb2⟩ : ∃ a, (us 7 0).1 = a := ⟨_, rfl⟩
  obtain ⟨d2, hd2⟩ : ∃ a, (us 7 0).2 = a := ⟨_, rfl⟩
  rw [hb1, hd1] at hO1 ⊢
  rw [hb2, hd2] at hO2 ⊢
  clear hb1 hd1 hb2 hd2
  have hxx : Ext W (W.ext x) := Ext.of_ext _ _
  have hBx := hB.extB hxx
  have hRx := hR.extB hxx
  have hEx := hEW.trans hxx
  have s1 := hO1
  have s2 := hO2
  haveI := hBx.blt
  clear f0 f1 g1 g2 hO1 hO2
  go_wp2_with (first
    | (refine wpList_store_arr (RPj) rfl _ _ rfl (w.heap.size) (0) rfl ([.slice b1 n1 d1, .slice b2 n2 d2]) rfl (30) _ (hBx) (rfl) (by simp) (by first | exact one_u8 _ | (simp; done) | (simp; (repeat' (first | rfl | constructor)))) ?_; intro V hV hMV)
    | fail)
  have hV : Blk V w.heap.size 30 [.slice b1 n1 d1, .slice b2 n2 d2, .slice a3 n3 c3, .slice a4 n4 c4, .int .i64 j.net, .int .i64 j.sent] := hV
  have s1 := s1.mutT hBx (by decide) hMV
  have s2 := s2.mutT hBx (by decide) hMV
  have hRV := Blk.turn hMV hRx (by omega)
  have hEV : Ext w V := Below.trans hEx (hMV.below (Nat.le_refl _) hEx.size)
  have g3 := h3.ext hEV
  have g4 := h4.ext hEV
  clear hBx hRx hEx hMV hB hR hEW hxx
  haveI := hV.blt
  have f2 : V.cell? ⟨w.heap.size, 1 + 1, none⟩ = some (.slice a3 n3 c3) := hV.cell? 2 rfl
  have f2' : V.cell? ⟨w.heap.size, 2, none⟩ = some (.slice a3 n3 c3) := hV.cell? 2 rfl
  have f3 : V.cell? ⟨w.heap.size, 3, none⟩ = some (.slice a4 n4 c4) := hV.cell? 3 rfl
  refine wp_region_vague 7 [[], [0], [0, 1], [], [3], [0, 1, 2, 3, 4], [0, 1, 2, 3, 4], [0, 1, 2, 3, 4, 5, 6], [0, 1, 2, 3, 4, 5, 6, 7], [0, 1, 2, 3, 4, 5, 6, 7, 8]] (by kernel_rfl) (by kernel_rfl) (by kernel_rfl) (by kernel_rfl) ?_; simp only [List.take_succ_cons, List.take_zero, List.drop_succ_cons, List.drop_zero, List.take_nil, List.drop_nil]
  (repeat (apply VD_der; (case h => (intro us w' hx hf; obtain ⟨x, rfl⟩ := hx.out; refine ⟨rfl, ?_⟩; simp [go_sem, execOp, *]; (try simp (disch := omega) only [Go.IntWalk.i64_in, Go.IntWalk.rem_in, Go.IntWalk.wrap64_in]); rfl)); (try simp only [Act.put, List.setIfInBounds_toArray, List.set_cons_succ, List.set_cons_zero])))
  (refine VD_vag (fun p => .slice (p 0).1 n3 (p 0).2) (fun p w'' => OwnBX w.heap.size w'' (p 0).1 n3 (p 0).2 j.ck) (fun p w w' h hx => by first | exact h.ext hx | exact ⟨h.1.ext hx, h.2.ext hx⟩ | exact ⟨h.1.ext hx, h.2⟩ | exact ⟨h.1.ext hx, h.2.1.ext hx, h.2.2.ext hx⟩) (fun us w' hx hf => ⟨rfl, ?_⟩) ?_; (unfold gives; simp [go_sem, execOp]; exact (jcopied_any a3 n3 c3 j.ck _ (g3.ext hx) hn3 hb3).mono fun _ _ ⟨b, d, he, hO, hx'⟩ => ⟨_, he, fun _ => (b, d), rfl, hx', _, Nat.le_trans hEV.size hx.size, hx'.size, hO⟩))
  (repeat (apply VD_der; (case h => (intro us w' hx hf; obtain ⟨x, rfl⟩ := hx.out; refine ⟨rfl, ?_⟩; simp [go_sem, execOp, *]; (try simp (disch := omega) only [Go.IntWalk.i64_in, Go.IntWalk.rem_in, Go.IntWalk.wrap64_in]); rfl)); (try simp only [Act.put, List.setIfInBounds_toArray, List.set_cons_succ, List.set_cons_zero])))
  (refine VD_vag (fun p => .slice (p 0).1 (n4) (p 0).2) (fun p w'' => Own w'' 0 (p 0).1 (n4) (p 0).2 (j.last)) (fun p w w' h hx => h.ext hx) (fun us w' hx hf => ⟨rfl, ?_⟩) ?_; (unfold gives; simp [go_sem, execOp]; exact vag_fresh (Nat.zero_le _) (clone_any a4 n4 c4 j.last _ (g4.ext hx) (by omega))))
  (repeat (apply VD_der; (case h => (intro us w' hx hf; obtain ⟨x, rfl⟩ := hx.out; refine ⟨rfl, ?_⟩; simp [go_sem, execOp, *]; (try simp (disch := omega) only [Go.IntWalk.i64_in, Go.IntWalk.rem_in, Go.IntWalk.wrap64_in]); rfl)); (try simp only [Act.put, List.setIfInBounds_toArray, List.set_cons_succ, List.set_cons_zero])))
  (refine VD_nil ?_; intro us w' hx hf; obtain ⟨x, rfl⟩ := hx.out; (try simp only [Act.put, List.setIfInBounds_toArray, List.set_cons_succ, List.set_cons_zero, wpList_none]); (try simp only [List.mem_cons, List.not_mem_nil, or_false, forall_eq_or_imp, forall_eq, List.nil_append, List.cons_append, List.mem_append, false_or, true_and, and_true] at hf); (try simp only [Nat.reduceAdd, Nat.zero_add] at hf); (try simp only [Nat.reduceAdd, Nat.zero_add]))
  obtain ⟨hO3, hO4⟩ := hf
  obtain ⟨b3, hb3'⟩ : ∃ a, (us 2 0).1 = a := ⟨_, rfl⟩
  obtain ⟨d3, hd3⟩ : ∃ a, (us 2 0).2 = a := ⟨_, rfl⟩
  obtain ⟨b4, hb4⟩ : ∃ a, (us 5 0).1 = a := ⟨_, rfl⟩
  obtain ⟨d4, hd4⟩ : ∃ a, (us 5 0).2 = a := ⟨_, rfl⟩
  rw [hb3', hd3] at hO3 ⊢
  rw [hb4, hd4] at hO4 ⊢
  clear hb3' hd3 hb4 hd4
  obtain ⟨X, hX⟩ : ∃ X, X = V.ext x := ⟨_, rfl⟩
  have hxx : Ext V X := by rw [hX]; exact Ext.of_ext _ _
  rw [← hX] at hO3 hO4 ⊢
  clear hX
  have hB := hV.extB hxx
  have hR := hRV.extB hxx
  have hE := hEV.trans hxx
  have s1 := s1.ext hxx
  have s2 := s2.ext hxx
  have s4 := hO4
  haveI := hB.blt
  have q2 := hB.cell? 2 rfl
  have q3 := hB.cell? 3 rfl
  have z2 := hB.free 2
  have z3 := hB.free 3
  clear f2 f2' f3 g3 g4 hV hRV hEV hxx hO4
  have hS := (hB.set 2 (.slice b3 n3 d3)).set 3 (.slice b4 n4 d4)
  have hMS : Mut w.heap.size X ((X.setCell ⟨w.heap.size, 2, none⟩ (.slice b3 n3 d3)).setCell ⟨w.heap.size, 3, none⟩ (.slice b4 n4 d4)) := ((Mut.refl _ _).setCell 2 _).setCell 3 _
  have hS : Blk ((X.setCell ⟨w.heap.size, 2, none⟩ (.slice b3 n3 d3)).setCell ⟨w.heap.size, 3, none⟩ (.slice b4 n4 d4)) w.heap.size 30 [.slice b1 n1 d1, .slice b2 n2 d2, .slice b3 n3 d3, .slice b4 n4 d4, .int .i64 j.net, .int .i64 j.sent] := hS
  have hRS := Blk.turn hMS hR (by omega)
  go_wp2_with (first
    | (refine wpList_load_arr (RJ6) rfl _ rfl (w.heap.size) (0) rfl ([.slice b1 n1 d1, .slice b2 n2 d2, .slice b3 n3 d3, .slice b4 n4 d4, .int .i64 j.net, .int .i64 j.sent]) ((hS.rd)) (rfl) ?_)
    | (refine wpList_store_arr (RJ6) rfl _ _ rfl (w.heap.size + 1) (0) rfl ([.slice b1 n1 d1, .slice b2 n2 d2, .slice b3 n3 d3, .slice b4 n4 d4, .int .i64 j.net, .int .i64 j.sent]) rfl (30) _ (hRS) (rfl) (by simp) ((by simp; repeat' (first | rfl | constructor))) ?_; intro w9 hB9 hM9)
    | fail)
  refine bodyPost_ret (results_arr Try.results24 (RJ6) _ _ (w.heap.size + 1) (0) ([.slice b1 n1 d1, .slice b2 n2 d2, .slice b3 n3 d3, .slice b4 n4 d4, .int .i64 j.net, .int .i64 j.sent]) rfl (hB9.rd) (rfl)) rfl ?_
  have hES : Ext w _ := Below.trans hE (hMS.below (Nat.le_refl _) hE.size)
  exact ⟨b1, d1, b2, d2, b3, d3, b4, d4, rfl, (s1.mutT hB (by decide) hMS).mutT hRS (by decide) hM9, (s2.mutT hB (by decide) hMS).mutT hRS (by decide) hM9, (hO3.mut hB (by decide) (by simp) hMS).mut hRS (by decide) (by simp) hM9, (s4.mutT hB (by decide) hMS).mutT hRS (by decide) hM9, Below.trans hES (hM9.below (by omega) hES.size)⟩
end Go.Proofs.Ytdmifbfgeeldnaa

/- The walks of layer 22: added. -/
namespace Go.Jar
def addOne (j : Jar) (b : List UInt8) : Jar := if j.ck.length < 8 ∧ b ∉ j.ck ∧ j.last ≠ b then { j with ck := j.ck ++ [b] } else j
def addJ (j : Jar) (l : List (List UInt8)) : Jar := l.foldl addOne j
theorem addJ_snoc (j : Jar) (l : List (List UInt8)) (b : List UInt8) : addJ j (l ++ [b]) = addOne (addJ j l) b := by simp [addJ]
theorem addOne_rest (j : Jar) (b : List UInt8) : (addOne j b).up = j.up ∧ (addOne j b).dn = j.dn ∧ (addOne j b).last = j.last ∧ (addOne j b).net = j.net ∧ (addOne j b).sent = j.sent := by
  unfold addOne; split <;> simp
theorem addJ_rest (j : Jar) (l : List (List UInt8)) : (addJ j l).up = j.up ∧ (addJ j l).dn = j.dn ∧ (addJ j l).last = j.last ∧ (addJ j l).net = j.net ∧ (addJ j l).sent = j.sent := by
  unfold addJ
  induction l generalizing j with
  | nil => simp
  | cons b l ih =>
    obtain ⟨a1, a2, a3, a4, a5⟩ := ih (addOne j b)
    obtain ⟨b1, b2, b3, b4, b5⟩ := addOne_rest j b
    rw [List.foldl_cons]
    exact ⟨a1.trans b1, a2.trans b2, a3.trans b3, a4.trans b4, a5.trans b5⟩
end Go.Jar
namespace Go.Proofs.Ytdmifbfgeeldnaa
open Go.RowKit Go.Sec Go.Oct Go.Jar BigFrame

set_option maxRecDepth 100000 in
theorem jroom_any (a1 a2 a3 a4 : Option Addr) (n1 c1 n2 c2 n3 c3 n4 c4 : Nat) (x y : Int) (w : World) (hn : n3 ≤ 1000000) :
    Calls Try.prog 29 #[.agg #[.slice a1 n1 c1, .slice a2 n2 c2, .slice a3 n3 c3, .slice a4 n4 c4, .int .i64 x, .int .i64 y]] w fun e w' => e = .returned (.int .i64 (8 - (n3 : Int))) ∧ Ext w w' := by
  go_enter Try.func29, Try.ntmps29
  go_wp2
  go_ret
  exact ⟨rfl, (by repeat (first | (with_reducible first | exact Ext.refl _ | assumption | apply Ext.alloc | apply Ext.ext | apply Ext.drew | refine Ext.setCell ?_ ?_ _) | (focus (simp [go_sem]; done))))⟩

/-- One slice of bytes in a block of its own. -/
def NewB (l : List UInt8) (w : World) (a : Option Addr) : Prop := ∃ g ga n cc, a = some ⟨g, 0, none⟩ ∧ Rd w a [.slice ga n cc] ∧ Own w 0 ga n cc l
theorem NewB.ext {l : List UInt8} {w w' : World} {a : Option Addr} (h : NewB l w a) (hx : Ext w w') : NewB l w' a := by
  obtain ⟨g, ga, n, cc, h1, h2, h3⟩ := h
  exact ⟨g, ga, n, cc, h1, h2.ext hx, h3.ext hx⟩
theorem NewB.mk {l : List UInt8} {w : World} {ga : Option Addr} {n cc : Nat} (h : Own w 0 ga n cc l) (T : TypeId) : NewB l (w.alloc (.cells #[.slice ga n cc] T)) (some ⟨w.heap.size, 0, none⟩) :=
  ⟨_, ga, n, cc, rfl, (Blk.new w #[.slice ga n cc] T).rd, h.ext (Ext.of_alloc _ _)⟩
set_option maxRecDepth 100000 in
set_option maxHeartbeats 8000000 in
theorem jadded_any (a1 a2 a3 a4 a : Option Addr) (n1 c1 n2 c2 n3 c3 n4 c4 n c : Nat) (j : Jar) (L : List (List UInt8)) (w : World) (h1 : Sl w a1 n1 j.up) (m1 : n1 ≤ 1000000) (h2 : Sl w a2 n2 j.dn) (m2 : n2 ≤ 1000000) (h3 : Bsc w a3 n3 j.ck) (hn3 : n3 ≤ 100000) (hb3 : ∀ x ∈ j.ck, x.length ≤ 1000000) (h4 : Sl w a4 n4 j.last) (m4 : n4 ≤ 1000000)
    (hL : Bsc w a n L) (hnn : n ≤ 100000) (hbL : ∀ x ∈ L, x.length ≤ 1000000) :
    Calls Try.prog 23 #[.agg #[.slice a1 n1 c1, .slice a2 n2 c2, .slice a3 n3 c3, .slice a4 n4 c4, .int .i64 j.net, .int .i64 j.sent], .slice a n c] w (JarO (addJ j L) n1 n2 (addJ j L).ck.length n4 w) := by
  have hLl := hL.len
  have hl3 := h3.len
  have hcl := fun W H1 H2 H3 H4 => jclone_any a1 a2 a3 a4 n1 c1 n2 c2 n3 c3 n4 c4 j W H1 m1 H2 m2 H3 hn3 hb3 H4 m4
  obtain ⟨r1, r2, r3, r4, r5⟩ := addJ_rest j L
  have hrest := fun k => (addJ_rest j (L.take k)).2.2.1
  unfold JarO
  rw [r1, r2, r3, r4, r5]
  clear r1 r2 r3 r4 r5
  go_enter Try.func23, Try.ntmps23
  go_wp2_with fail
  have hx0 : Ext w ((w.alloc (.cells #[.slice a1 n1 c1, .slice a2 n2 c2, .slice a3 n3 c3, .slice a4 n4 c4, .int .i64 j.net, .int .i64 j.sent] 30)).alloc (.cells #[.slice none 0 0, .slice none 0 0, .slice none 0 0, .slice none 0 0, .int .i64 0, .int .i64 0] 30)) := (by repeat (first | (with_reducible first | exact Ext.refl _ | assumption | apply Ext.alloc | apply Ext.ext | apply Ext.drew | refine Ext.setCell ?_ ?_ _) | (focus (simp [go_sem]; done))))
  have hR : Blk ((w.alloc (.cells #[.slice a1 n1 c1, .slice a2 n2 c2, .slice a3 n3 c3, .slice a4 n4 c4, .int .i64 j.net, .int .i64 j.sent] 30)).alloc (.cells #[.slice none 0 0, .slice none 0 0, .slice none 0 0, .slice none 0 0, .int .i64 0, .int .i64 0] 30)) (w.heap.size + 1) 30 [.slice none 0 0, .slice none 0 0, .slice none 0 0, .slice none 0 0, .int .i64 0, .int .i64 0] := (by repeat (first | assumption | (refine Blk.newAt _ _ _ _ ?_; first | rfl | (simp only [World.size_alloc]; done)) | apply Blk.ext | apply Blk.alloc | (refine Blk.other ?_ ?_ _; rotate_left; (simp <;> omega))))
  (with_reducible refine (hcl _ (h1.ext hx0) (h2.ext hx0) (h3.ext hx0) (h4.ext hx0)).mono ?_)
  rintro e w1 ⟨b1, d1, b2, d2, b3, d3, b4, d4, rfl, o1, o2, ⟨B, hB0, hBs, o3⟩, o4, hx1⟩
  have hE1 := hx0.trans hx1
  have hR := hR.extB hx1
  rw [World.size_alloc, World.size_alloc] at hB0
  have hlt := hR.lt
  clear hx0 hx1 hcl
  go_wp2_with (first
    | (refine wpList_alloc_store (RJ6) rfl rfl _ _ rfl rfl rfl rfl (by simp [Act.put]) ([.slice b1 n1 d1, .slice b2 n2 d2, .slice b3 n3 d3, .slice b4 n4 d4, .int .i64 j.net, .int .i64 j.sent]) rfl (by simp) (rfl) ((by simp; repeat' (first | rfl | constructor))) ?_; intro x hz _)
    | fail)
  obtain ⟨W, hW⟩ : ∃ W, W = w1.ext x := ⟨_, rfl⟩
  have hxW : Ext w1 W := by rw [hW]; exact (by repeat (first | (with_reducible first | exact Ext.refl _ | assumption | apply Ext.alloc | apply Ext.ext | apply Ext.drew | refine Ext.setCell ?_ ?_ _) | (focus (simp [go_sem]; done))))
  rw [← hW] at hz ⊢
  obtain ⟨gO, hgO⟩ : ∃ g, g = w1.heap.size := ⟨_, rfl⟩
  rw [← hgO] at hz hlt ⊢
  have o1 := o1.ext hxW
  have o2 := o2.ext hxW
  have o3 := o3.ext hxW
  have o4 := o4.ext hxW
  have hR := hR.extB hxW
  have hE := hE1.trans hxW
  have hBs := Nat.le_trans hBs hxW.size
  clear hW hxW hE1 hgO
  go_loopw [7, 12] (fun _ v12 wr => ∃ (k : Nat) (sa : Option Addr) (sc : Nat) (J : Jar), k ≤ n ∧ v12 = .int .i64 k ∧ Hid (J = addJ j (L.take k)) ∧ Blk wr gO 30 [.slice b1 n1 d1, .slice b2 n2 d2, .slice sa J.ck.length sc, .slice b4 n4 d4, .int .i64 j.net, .int .i64 j.sent] ∧ OwnB wr B sa J.ck.length sc J.ck ∧ B ≤ wr.heap.size ∧ Own wr 0 b1 n1 d1 j.up ∧ Own wr 0 b2 n2 d2 j.dn ∧ Own wr 0 b4 n4 d4 j.last ∧ Blk wr (w.heap.size + 1) 30 [.slice none 0 0, .slice none 0 0, .slice none 0 0, .slice none 0 0, .int .i64 0, .int .i64 0] ∧ Ext w wr) (fun _ v12 _ => n - (intOf v12).toNat)
  case atStart => exact ⟨0, b3, d3, j, Nat.zero_le _, rfl, Lib.hid (by rw [List.take_zero]; rfl), (by rw [hl3]; exact hz), (by rw [hl3]; exact o3), hBs, o1, o2, o4, hR, hE⟩
  case round =>
    clear hz o3 hBs o1 o2 o4 hR hE
    obtain ⟨k, sa, sc, J, hk, rfl, hJ, hz, o3, hBs, o1, o2, o4, hR, hE⟩ := hrel
    haveI := hz.blt
    have f2 : wr.cell? ⟨gO, 2, none⟩ = some (.slice sa J.ck.length sc) := hz.cell? 2 rfl
    have f3 : wr.cell? ⟨gO, 3, none⟩ = some (.slice b4 n4 d4) := hz.cell? 3 rfl
    by_cases hlt2 : k < n
    · have hk0 : (0 : Int) ≤ (k : Int) := by omega
      have hkn : (k : Int) < (n : Int) := by omega
      obtain ⟨b0, o0, a', n', c', rfl, hb0, hcell, hc', hS⟩ := (hL.ext hE).at k hlt2
      have hkL : k < L.length := by omega
      have hts : L.take (k + 1) = L.take k ++ [L[k]] := List.take_succ_eq_append_getElem hkL
      have hbx := hbL _ (List.getElem_mem hkL)
      generalize L[k] = X at *
      have hXl := hS.len
      haveI := hb0
      have hsn : addJ j (L.take (k + 1)) = addOne J X := by rw [hts, addJ_snoc, ← hJ.out]
      have o3b := o3.bsc
      have o4s := o4.sl
      have ghs := fun V (hh : J.ck.length ≤ 1000000) H1 H2 => has_any sa a' J.ck.length sc n' c' J.ck X V H1 hh H2
      have gsm := fun V H1 H2 => osame_any b4 a' n4 d4 n' c' j.last X V H1 H2
      by_cases q1 : J.ck.length < 8
      · have q1i : (J.ck.length : Int) < 8 := by omega
        cases q2 : decide (X ∈ J.ck)
        · have q2' := of_decide_eq_false q2
          simp only [q2] at ghs
          clear q2
          cases q3 : (j.last == X)
          · simp only [q3] at gsm
            have q3' : J.last ≠ X := by rw [hJ.out, hrest k]; simpa using q3
            have hJ2 := Lib.hid (show ({ J with ck := J.ck ++ [X] } : Jar) = addJ j (L.take (k + 1)) by rw [hsn]; unfold addOne; rw [if_pos ⟨q1, q2', q3'⟩])
            clear hsn hts q3 q3' q2'
            go_wp2_with (first
              | (go_at_call 27; refine (ghs _ (by omega) (o3b.ext (by repeat (first | (with_reducible first | exact Ext.refl _ | assumption | apply Ext.alloc | apply Ext.ext | apply Ext.drew | refine Ext.setCell ?_ ?_ _) | (focus (simp [go_sem]; done))))) (hS.ext (by repeat (first | (with_reducible first | exact Ext.refl _ | assumption | apply Ext.alloc | apply Ext.ext | apply Ext.drew | refine Ext.setCell ?_ ?_ _) | (focus (simp [go_sem]; done)))))).mono ?_; rintro e w1 ⟨rfl, hxq⟩; obtain ⟨xq, rfl⟩ := hxq.out; clear hxq)
              | (go_at_call 36; refine (gsm _ (o4s.ext (by repeat (first | (with_reducible first | exact Ext.refl _ | assumption | apply Ext.alloc | apply Ext.ext | apply Ext.drew | refine Ext.setCell ?_ ?_ _) | (focus (simp [go_sem]; done))))) (hS.ext (by repeat (first | (with_reducible first | exact Ext.refl _ | assumption | apply Ext.alloc | apply Ext.ext | apply Ext.drew | refine Ext.setCell ?_ ?_ _) | (focus (simp [go_sem]; done)))))).mono ?_; rintro e w1 ⟨rfl, hxq⟩; obtain ⟨xq, rfl⟩ := hxq.out; clear hxq)
              | fail)
            refine nameW ?_
            intro W3 hW3
            have hE3 : Ext wr W3 := by rw [hW3]; exact (by repeat (first | (with_reducible first | exact Ext.refl _ | assumption | apply Ext.alloc | apply Ext.ext | apply Ext.drew | refine Ext.setCell ?_ ?_ _) | (focus (simp [go_sem]; done))))
            clear hW3
            have hz := hz.extB hE3
            have o3 := o3.ext hE3
            have o1 := o1.ext hE3
            have o2 := o2.ext hE3
            have o4 := o4.ext hE3
            have hR := hR.extB hE3
            have hE := hE.trans hE3
            have hBs := Nat.le_trans hBs hE3.size
            have hS := hS.ext hE3
            haveI := hz.blt
            have f2 : W3.cell? ⟨gO, 2, none⟩ = some (.slice sa J.ck.length sc) := hz.cell? 2 rfl
            clear f3 hE3 o3b o4s gsm ghs
            refine wp_region_vague 5 [[], [0], [], [2], [2, 3], [0, 1, 2, 3, 4], [0, 1, 2, 3, 4, 5], [0, 1, 2, 3, 4, 5, 6]] (by kernel_rfl) (by kernel_rfl) (by kernel_rfl) (by kernel_rfl) ?_; simp only [List.take_succ_cons, List.take_zero, List.drop_succ_cons, List.drop_zero, List.take_nil, List.drop_nil]
            (repeat (apply VD_der; (case h => (intro us w' hx hf; obtain ⟨x, rfl⟩ := hx.out; refine ⟨rfl, ?_⟩; simp [go_sem, execOp, *]; (try simp (disch := omega) only [Go.IntWalk.i64_in, Go.IntWalk.rem_in, Go.IntWalk.wrap64_in]); rfl)); (try simp only [Act.put, List.setIfInBounds_toArray, List.set_cons_succ, List.set_cons_zero])))
            (refine VD_vag (fun p => .slice (p 0).1 (n') (p 0).2) (fun p w'' => Own w'' 0 (p 0).1 (n') (p 0).2 (X)) (fun p w w' h hx => h.ext hx) (fun us w' hx hf => ⟨rfl, ?_⟩) ?_; (unfold gives; simp [go_sem, execOp]; exact vag_fresh (Nat.zero_le _) (clone_any a' n' c' X _ (hS.ext hx) (by omega))))
            (refine VD_vag (fun p => .slice (p 0).1 1 1) (fun p w'' => NewB X w'' (p 0).1) (fun p w w' h hx => by first | exact h.ext hx | exact ⟨h.1.ext hx, h.2.ext hx⟩ | exact ⟨h.1.ext hx, h.2⟩ | exact ⟨h.1.ext hx, h.2.1.ext hx, h.2.2.ext hx⟩) (fun us w' hx hf => ⟨rfl, ?_⟩) ?_; (unfold gives; simp [go_sem, execOp]; exact ⟨fun _ => (some ⟨w'.heap.size, 0, none⟩, 0), rfl, Ext.of_alloc _ _, NewB.mk (hf _ (List.mem_append_right _ (List.mem_singleton_self _)) rfl) _⟩))
            (refine VD_nil ?_; intro us w' hx hf; obtain ⟨x, rfl⟩ := hx.out; (try simp only [Act.put, List.setIfInBounds_toArray, List.set_cons_succ, List.set_cons_zero, wpList_none]); (try simp only [List.mem_cons, List.not_mem_nil, or_false, forall_eq_or_imp, forall_eq, List.nil_append, List.cons_append, List.mem_append, false_or, true_and, and_true] at hf); (try simp only [Nat.reduceAdd, Nat.zero_add] at hf); (try simp only [Nat.reduceAdd, Nat.zero_add]))
            obtain ⟨_, hN⟩ := hf
            obtain ⟨aN, haN⟩ : ∃ a, (us 4 0).1 = a := ⟨_, rfl⟩
            rw [haN] at hN ⊢
            clear haN
            obtain ⟨gn, ga, nn, cc, rfl, hRd, hOn⟩ := hN
            have hxx : Ext W3 (W3.ext x) := Ext.of_ext _ _
            have o3x := o3.ext hxx
            have hzx := hz.extB hxx
            have hRx := hR.extB hxx
            have hEx := hE.trans hxx
            have hBx := Nat.le_trans hBs hxx.size
            have o1 := o1.ext hxx
            have o2 := o2.ext hxx
            have o4 := o4.ext hxx
            clear o3 hz hR hE hBs hxx f2
            refine wpList_append_one V8 rfl _ _ rfl B sa J.ck.length sc J.ck rfl gn rfl o3x ga nn cc X hRd hOn.sl hOn.le.1 (Own.inBlk hOn) (by omega) hBx ?_
            intro sa' sc' w6 hO6 hg6 hb6
            have hz6 := hzx.grown hg6 (o3x.blk hzx (by decide))
            have hR6 := hRx.grown hg6 (o3x.blk hRx (by decide))
            have o1 := o1.grownB o3x hg6
            have o2 := o2.grownB o3x hg6
            have o4 := o4.grownB o3x hg6
            have hE6 : Ext w w6 := Below.trans hEx (hb6.mono (by omega))
            have hB6 := Nat.le_trans hBx hb6.size
            haveI := hz6.blt
            have q2 := hz6.cell? 2 rfl
            have z2 := hz6.free 2
            go_wp2
            have hset := hz6.set 2 (.slice sa' (J.ck.length + 1) sc')
            have hM : Mut gO w6 (w6.setCell ⟨gO, 2, none⟩ (.slice sa' (J.ck.length + 1) sc')) := (Mut.refl _ _).setCell 2 _
            go_roundw
            case rel => exact ⟨k + 1, sa', sc', { J with ck := J.ck ++ [X] }, by omega, by go_num, hJ2, (by rw [List.length_append]; exact hset), (by rw [List.length_append]; exact hO6.mut hz6 (by decide) (by simp) hM), Nat.le_trans hB6 hM.size, o1.mutT hz6 (by decide) hM, o2.mutT hz6 (by decide) hM, o4.mutT hz6 (by decide) hM, Blk.turn hM hR6 (by omega), Below.trans hE6 (hM.below (by omega) hE6.size)⟩
            case measure => simp [intOf]; omega
          · simp only [q3] at gsm
            have q3' : J.last = X := by rw [hJ.out, hrest k]; simpa using q3
            clear q3
            have hJ2 := Lib.hid (show J = addJ j (L.take (k + 1)) by rw [hsn]; unfold addOne; rw [if_neg (fun h => h.2.2 q3')])
            clear hsn hts hXl
            go_wp2_with (first
              | (go_at_call 27; refine (ghs _ (by omega) (o3b.ext (by repeat (first | (with_reducible first | exact Ext.refl _ | assumption | apply Ext.alloc | apply Ext.ext | apply Ext.drew | refine Ext.setCell ?_ ?_ _) | (focus (simp [go_sem]; done))))) (hS.ext (by repeat (first | (with_reducible first | exact Ext.refl _ | assumption | apply Ext.alloc | apply Ext.ext | apply Ext.drew | refine Ext.setCell ?_ ?_ _) | (focus (simp [go_sem]; done)))))).mono ?_; rintro e w1 ⟨rfl, hxq⟩; obtain ⟨xq, rfl⟩ := hxq.out; clear hxq)
              | (go_at_call 36; refine (gsm _ (o4s.ext (by repeat (first | (with_reducible first | exact Ext.refl _ | assumption | apply Ext.alloc | apply Ext.ext | apply Ext.drew | refine Ext.setCell ?_ ?_ _) | (focus (simp [go_sem]; done))))) (hS.ext (by repeat (first | (with_reducible first | exact Ext.refl _ | assumption | apply Ext.alloc | apply Ext.ext | apply Ext.drew | refine Ext.setCell ?_ ?_ _) | (focus (simp [go_sem]; done)))))).mono ?_; rintro e w1 ⟨rfl, hxq⟩; obtain ⟨xq, rfl⟩ := hxq.out; clear hxq)
              | fail)
            go_roundw
            case rel => exact ⟨k + 1, sa, sc, J, by omega, by go_num, hJ2, hz.extB (by repeat (first | (with_reducible first | exact Ext.refl _ | assumption | apply Ext.alloc | apply Ext.ext | apply Ext.drew | refine Ext.setCell ?_ ?_ _) | (focus (simp [go_sem]; done)))), o3.ext (by repeat (first | (with_reducible first | exact Ext.refl _ | assumption | apply Ext.alloc | apply Ext.ext | apply Ext.drew | refine Ext.setCell ?_ ?_ _) | (focus (simp [go_sem]; done)))), Nat.le_trans hBs (show Ext wr _ from (by repeat (first | (with_reducible first | exact Ext.refl _ | assumption | apply Ext.alloc | apply Ext.ext | apply Ext.drew | refine Ext.setCell ?_ ?_ _) | (focus (simp [go_sem]; done))))).size, o1.ext (by repeat (first | (with_reducible first | exact Ext.refl _ | assumption | apply Ext.alloc | apply Ext.ext | apply Ext.drew | refine Ext.setCell ?_ ?_ _) | (focus (simp [go_sem]; done)))), o2.ext (by repeat (first | (with_reducible first | exact Ext.refl _ | assumption | apply Ext.alloc | apply Ext.ext | apply Ext.drew | refine Ext.setCell ?_ ?_ _) | (focus (simp [go_sem]; done)))), o4.ext (by repeat (first | (with_reducible first | exact Ext.refl _ | assumption | apply Ext.alloc | apply Ext.ext | apply Ext.drew | refine Ext.setCell ?_ ?_ _) | (focus (simp [go_sem]; done)))), hR.extB (by repeat (first | (with_reducible first | exact Ext.refl _ | assumption | apply Ext.alloc | apply Ext.ext | apply Ext.drew | refine Ext.setCell ?_ ?_ _) | (focus (simp [go_sem]; done)))), hE.trans (by repeat (first | (with_reducible first | exact Ext.refl _ | assumption | apply Ext.alloc | apply Ext.ext | apply Ext.drew | refine Ext.setCell ?_ ?_ _) | (focus (simp [go_sem]; done))))⟩
            case measure => simp [intOf]; omega
        · have q2' := of_decide_eq_true q2
          simp only [q2] at ghs
          clear q2
          have hJ2 := Lib.hid (show J = addJ j (L.take (k + 1)) by rw [hsn]; unfold addOne; rw [if_neg (fun h => h.2.1 q2')])
          clear hsn hts hXl
          go_wp2_with (first
            | (go_at_call 27; refine (ghs _ (by omega) (o3b.ext (by repeat (first | (with_reducible first | exact Ext.refl _ | assumption | apply Ext.alloc | apply Ext.ext | apply Ext.drew | refine Ext.setCell ?_ ?_ _) | (focus (simp [go_sem]; done))))) (hS.ext (by repeat (first | (with_reducible first | exact Ext.refl _ | assumption | apply Ext.alloc | apply Ext.ext | apply Ext.drew | refine Ext.setCell ?_ ?_ _) | (focus (simp [go_sem]; done)))))).mono ?_; rintro e w1 ⟨rfl, hxq⟩; obtain ⟨xq, rfl⟩ := hxq.out; clear hxq)
            | (go_at_call 36; refine (gsm _ (o4s.ext (by repeat (first | (with_reducible first | exact Ext.refl _ | assumption | apply Ext.alloc | apply Ext.ext | apply Ext.drew | refine Ext.setCell ?_ ?_ _) | (focus (simp [go_sem]; done))))) (hS.ext (by repeat (first | (with_reducible first | exact Ext.refl _ | assumption | apply Ext.alloc | apply Ext.ext | apply Ext.drew | refine Ext.setCell ?_ ?_ _) | (focus (simp [go_sem]; done)))))).mono ?_; rintro e w1 ⟨rfl, hxq⟩; obtain ⟨xq, rfl⟩ := hxq.out; clear hxq)
            | fail)
          go_roundw
          case rel => exact ⟨k + 1, sa, sc, J, by omega, by go_num, hJ2, hz.extB (by repeat (first | (with_reducible first | exact Ext.refl _ | assumption | apply Ext.alloc | apply Ext.ext | apply Ext.drew | refine Ext.setCell ?_ ?_ _) | (focus (simp [go_sem]; done)))), o3.ext (by repeat (first | (with_reducible first | exact Ext.refl _ | assumption | apply Ext.alloc | apply Ext.ext | apply Ext.drew | refine Ext.setCell ?_ ?_ _) | (focus (simp [go_sem]; done)))), Nat.le_trans hBs (show Ext wr _ from (by repeat (first | (with_reducible first | exact Ext.refl _ | assumption | apply Ext.alloc | apply Ext.ext | apply Ext.drew | refine Ext.setCell ?_ ?_ _) | (focus (simp [go_sem]; done))))).size, o1.ext (by repeat (first | (with_reducible first | exact Ext.refl _ | assumption | apply Ext.alloc | apply Ext.ext | apply Ext.drew | refine Ext.setCell ?_ ?_ _) | (focus (simp [go_sem]; done)))), o2.ext (by repeat (first | (with_reducible first | exact Ext.refl _ | assumption | apply Ext.alloc | apply Ext.ext | apply Ext.drew | refine Ext.setCell ?_ ?_ _) | (focus (simp [go_sem]; done)))), o4.ext (by repeat (first | (with_reducible first | exact Ext.refl _ | assumption | apply Ext.alloc | apply Ext.ext | apply Ext.drew | refine Ext.setCell ?_ ?_ _) | (focus (simp [go_sem]; done)))), hR.extB (by repeat (first | (with_reducible first | exact Ext.refl _ | assumption | apply Ext.alloc | apply Ext.ext | apply Ext.drew | refine Ext.setCell ?_ ?_ _) | (focus (simp [go_sem]; done)))), hE.trans (by repeat (first | (with_reducible first | exact Ext.refl _ | assumption | apply Ext.alloc | apply Ext.ext | apply Ext.drew | refine Ext.setCell ?_ ?_ _) | (focus (simp [go_sem]; done))))⟩
          case measure => simp [intOf]; omega
      · have q1i : ¬ (J.ck.length : Int) < 8 := by omega
        have hJ2 := Lib.hid (show J = addJ j (L.take (k + 1)) by rw [hsn]; unfold addOne; rw [if_neg (fun h => q1 h.1)])
        clear hsn hts hXl
        go_wp2_with (first
          | (go_at_call 27; refine (ghs _ (by omega) (o3b.ext (by repeat (first | (with_reducible first | exact Ext.refl _ | assumption | apply Ext.alloc | apply Ext.ext | apply Ext.drew | refine Ext.setCell ?_ ?_ _) | (focus (simp [go_sem]; done))))) (hS.ext (by repeat (first | (with_reducible first | exact Ext.refl _ | assumption | apply Ext.alloc | apply Ext.ext | apply Ext.drew | refine Ext.setCell ?_ ?_ _) | (focus (simp [go_sem]; done)))))).mono ?_; rintro e w1 ⟨rfl, hxq⟩; obtain ⟨xq, rfl⟩ := hxq.out; clear hxq)
          | (go_at_call 36; refine (gsm _ (o4s.ext (by repeat (first | (with_reducible first | exact Ext.refl _ | assumption | apply Ext.alloc | apply Ext.ext | apply Ext.drew | refine Ext.setCell ?_ ?_ _) | (focus (simp [go_sem]; done))))) (hS.ext (by repeat (first | (with_reducible first | exact Ext.refl _ | assumption | apply Ext.alloc | apply Ext.ext | apply Ext.drew | refine Ext.setCell ?_ ?_ _) | (focus (simp [go_sem]; done)))))).mono ?_; rintro e w1 ⟨rfl, hxq⟩; obtain ⟨xq, rfl⟩ := hxq.out; clear hxq)
          | fail)
        go_roundw
        case rel => exact ⟨k + 1, sa, sc, J, by omega, by go_num, hJ2, hz.extB (by repeat (first | (with_reducible first | exact Ext.refl _ | assumption | apply Ext.alloc | apply Ext.ext | apply Ext.drew | refine Ext.setCell ?_ ?_ _) | (focus (simp [go_sem]; done)))), o3.ext (by repeat (first | (with_reducible first | exact Ext.refl _ | assumption | apply Ext.alloc | apply Ext.ext | apply Ext.drew | refine Ext.setCell ?_ ?_ _) | (focus (simp [go_sem]; done)))), Nat.le_trans hBs (show Ext wr _ from (by repeat (first | (with_reducible first | exact Ext.refl _ | assumption | apply Ext.alloc | apply Ext.ext | apply Ext.drew | refine Ext.setCell ?_ ?_ _) | (focus (simp [go_sem]; done))))).size, o1.ext (by repeat (first | (with_reducible first | exact Ext.refl _ | assumption | apply Ext.alloc | apply Ext.ext | apply Ext.drew | refine Ext.setCell ?_ ?_ _) | (focus (simp [go_sem]; done)))), o2.ext (by repeat (first | (with_reducible first | exact Ext.refl _ | assumption | apply Ext.alloc | apply Ext.ext | apply Ext.drew | refine Ext.setCell ?_ ?_ _) | (focus (simp [go_sem]; done)))), o4.ext (by repeat (first | (with_reducible first | exact Ext.refl _ | assumption | apply Ext.alloc | apply Ext.ext | apply Ext.drew | refine Ext.setCell ?_ ?_ _) | (focus (simp [go_sem]; done)))), hR.extB (by repeat (first | (with_reducible first | exact Ext.refl _ | assumption | apply Ext.alloc | apply Ext.ext | apply Ext.drew | refine Ext.setCell ?_ ?_ _) | (focus (simp [go_sem]; done)))), hE.trans (by repeat (first | (with_reducible first | exact Ext.refl _ | assumption | apply Ext.alloc | apply Ext.ext | apply Ext.drew | refine Ext.setCell ?_ ?_ _) | (focus (simp [go_sem]; done))))⟩
        case measure => simp [intOf]; omega
    · obtain rfl : k = n := by omega
      have hkn : ¬ (k : Int) < (k : Int) := by omega
      rw [List.take_of_length_le (by omega)] at hJ
      have hJe := hJ.out
      go_wp2_with (first
        | (refine wpList_load_arr (RJ6) rfl _ rfl (gO) (0) rfl ([.slice b1 n1 d1, .slice b2 n2 d2, .slice sa J.ck.length sc, .slice b4 n4 d4, .int .i64 j.net, .int .i64 j.sent]) (((hz.extB (by repeat (first | (with_reducible first | exact Ext.refl _ | assumption | apply Ext.alloc | apply Ext.ext | apply Ext.drew | refine Ext.setCell ?_ ?_ _) | (focus (simp [go_sem]; done))))).rd)) (rfl) ?_)
        | (refine wpList_store_arr (RJ6) rfl _ _ rfl (w.heap.size + 1) (0) rfl ([.slice b1 n1 d1, .slice b2 n2 d2, .slice sa J.ck.length sc, .slice b4 n4 d4, .int .i64 j.net, .int .i64 j.sent]) rfl (30) _ ((hR.extB (by repeat (first | (with_reducible first | exact Ext.refl _ | assumption | apply Ext.alloc | apply Ext.ext | apply Ext.drew | refine Ext.setCell ?_ ?_ _) | (focus (simp [go_sem]; done)))))) (rfl) (by simp) ((by simp; repeat' (first | rfl | constructor))) ?_; intro w9 hB9 hM9)
        | fail)
      refine bodyPost_ret (results_arr Try.results23 (RJ6) _ _ (w.heap.size + 1) (0) ([.slice b1 n1 d1, .slice b2 n2 d2, .slice sa J.ck.length sc, .slice b4 n4 d4, .int .i64 j.net, .int .i64 j.sent]) rfl (hB9.rd) (rfl)) rfl ?_
      rw [← hJe]
      have hEz : Ext w w9 := Below.trans hE (hM9.below (by omega) hE.size)
      exact ⟨b1, d1, b2, d2, sa, sc, b4, d4, rfl, o1.mutT hR (by decide) hM9, o2.mutT hR (by decide) hM9, ⟨B, by omega, Nat.le_trans hBs hM9.size, o3.mut hR (by decide) (by simp) hM9⟩, o4.mutT hR (by decide) hM9, hEz⟩
end Go.Proofs.Ytdmifbfgeeldnaa

/- The walks of layer 22: Put's test, Want, Again. -/
namespace Go.Jar
def allC (L : List (List UInt8)) : Bool := L.all fun b => decide (b.length = 104)
theorem allC_snoc (L : List (List UInt8)) (b : List UInt8) : allC (L ++ [b]) = (allC L && decide (b.length = 104)) := by simp [allC]
theorem allC_bad {L : List (List UInt8)} {b : List UInt8} (h : b ∈ L) (hb : b.length ≠ 104) : allC L = false := by
  unfold allC
  rw [List.all_eq_false]
  exact ⟨b, h, by simpa using hb⟩
/-- What Want answers. -/
def wantJ (j : Jar) : Int × Int := if validJ j then (8 - (j.ck.length : Int), 0) else (0, 3)
/-- What Again answers. -/
def againJ (j : Jar) : List UInt8 × Int := if validJ j then (if j.last.length = 0 then ([], 10) else (j.last, 0)) else ([], 3)
end Go.Jar
namespace Go.Proofs.Ytdmifbfgeeldnaa
open Go.RowKit Go.Sec Go.Oct Go.Jar BigFrame

set_option maxRecDepth 100000 in
theorem put1_any (a : Option Addr) (n c : Nat) (l : List UInt8) (w : World) (h : Sl w a n l) :
    Calls Try.prog 21 #[.slice a n c] w fun e w' => e = .returned (.bool (!decide (l.length = 104))) ∧ Ext w w' := by
  have hc := fun W H => jcookie_any a n c l W H
  go_enter Try.func21, Try.ntmps21
  go_wp2_with (first
    | (go_at_call 22; refine (hc _ (h.ext (by repeat (first | (with_reducible first | exact Ext.refl _ | assumption | apply Ext.alloc | apply Ext.ext | apply Ext.drew | refine Ext.setCell ?_ ?_ _) | (focus (simp [go_sem]; done)))))).mono ?_; rintro e w1 ⟨rfl, hxq⟩; obtain ⟨xq, rfl⟩ := hxq.out; clear hxq)
    | fail)
  go_ret
  exact ⟨rfl, (by repeat (first | (with_reducible first | exact Ext.refl _ | assumption | apply Ext.alloc | apply Ext.ext | apply Ext.drew | refine Ext.setCell ?_ ?_ _) | (focus (simp [go_sem]; done))))⟩

def IdxPut (L : List (List UInt8)) (w : World) (e : Ending) (w' : World) : Prop := ∃ r : Int, e = .returned (.int .i64 r) ∧ (0 ≤ r ↔ allC L = false) ∧ Ext w w'
set_option maxRecDepth 100000 in
set_option maxHeartbeats 4000000 in
theorem indexPut_any (a : Option Addr) (n c : Nat) (L : List (List UInt8)) (w : World) (h : Bsc w a n L) (hn : n ≤ 1000000) :
    Calls Try.prog 35 #[.slice a n c, .func (.func 21) #[] #[]] w (IdxPut L w) := by
  have hl := h.len
  have ho := fun a' n' c' x W H1 => put1_any a' n' c' x W H1
  go_enter Try.func35, Try.ntmps35
  go_wp2_with fail
  go_loopw [8] (fun v8 wr => ∃ i : Nat, i ≤ n ∧ v8 = .int .i64 i ∧ Hid (allC (L.take i) = true) ∧ Ext w wr) (fun v8 _ => n - (intOf v8).toNat)
  case atStart => exact ⟨0, by omega, rfl, Lib.hid (by simp [allC]), Ext.refl _⟩
  case round =>
    obtain ⟨i, hi, rfl, hm, hx⟩ := hrel
    by_cases hlt : i < n
    · obtain ⟨b0, o0, a', n', c', rfl, hb0, hcell, hc', hS⟩ := (h.ext hx).at i hlt
      have i0 : (0 : Int) ≤ (i : Int) := by omega
      have i1 : (i : Int) < (n : Int) := by omega
      have hiL : i < L.length := by omega
      have hts := Lib.hid (show L.take (i + 1) = L.take i ++ [L[i]] from List.take_succ_eq_append_getElem hiL)
      have hmem := List.getElem_mem hiL
      generalize L[i] = X at *
      haveI := hb0
      go_wp2_with fail
      (with_reducible refine (ho _ _ _ _ _ hS).mono ?_); rintro e w1 ⟨rfl, hx1⟩
      cases hb : decide (X.length = 104)
      · have hm2 := Lib.hid (show allC L = false from allC_bad hmem (of_decide_eq_false hb))
        clear hb
        go_wp2_with fail
        go_ret
        exact ⟨i, rfl, by simp [hm2.out], hx.trans hx1⟩
      · have hm2 := Lib.hid (show allC (L.take (i + 1)) = true by rw [hts.out, allC_snoc, hm.out, hb]; rfl)
        clear hb
        go_wp2_with fail
        go_roundw
        case rel => exact ⟨i + 1, by omega, by go_num, hm2, hx.trans hx1⟩
        case measure => simp [intOf]; omega
    · obtain rfl : i = n := by omega
      have hlo := Lib.hid (show allC L = true by have := hm.out; rwa [List.take_of_length_le (by omega)] at this)
      go_wp2_with fail
      go_ret
      exact ⟨-1, rfl, by simp [hlo.out], hx⟩

theorem containsPut_any (a : Option Addr) (n c : Nat) (L : List (List UInt8)) (w : World) (h : Bsc w a n L) (hn : n ≤ 1000000) :
    Calls Try.prog 20 #[.slice a n c, .func (.func 21) #[] #[]] w fun e w' => e = .returned (.bool (!allC L)) ∧ Ext w w' := by
  go_enter Try.func20, Try.ntmps20
  go_wp2_with fail
  refine (indexPut_any _ _ _ _ _ h hn).mono ?_; rintro e w1 ⟨r, rfl, hr, hx1⟩
  have hd := Lib.hid (show decide (0 ≤ r) = !allC L by cases hh : allC L <;> simp [hh] at hr ⊢ <;> omega)
  clear hr
  go_wp2_with fail
  go_ret
  exact ⟨by rw [← hd.out]; rfl, hx1⟩

set_option maxRecDepth 100000 in
set_option maxHeartbeats 4000000 in
theorem jwant_any (a1 a2 a3 a4 : Option Addr) (n1 c1 n2 c2 n3 c3 n4 c4 : Nat) (j : Jar) (w : World) (h1 : Sl w a1 n1 j.up) (h2 : Sl w a2 n2 j.dn) (h3 : Bsc w a3 n3 j.ck) (hc3 : n3 ≤ c3) (hn3 : n3 ≤ 1000000) (h4 : Sl w a4 n4 j.last) :
    Calls Try.prog 15 #[.agg #[.slice a1 n1 c1, .slice a2 n2 c2, .slice a3 n3 c3, .slice a4 n4 c4, .int .i64 j.net, .int .i64 j.sent]] w fun e w' => e = .returned (.tuple #[.int .i64 (wantJ j).1, .int .i64 (wantJ j).2]) ∧ Ext w w' := by
  have hl3 := h3.len
  have hv := fun W H1 H2 H3 H4 => jvalid_any a1 a2 a3 a4 n1 c1 n2 c2 n3 c3 n4 c4 j W H1 H2 H3 hc3 hn3 H4
  have hr := fun W => jroom_any a1 a2 a3 a4 n1 c1 n2 c2 n3 c3 n4 c4 j.net j.sent W hn3
  unfold wantJ
  rw [hl3]
  clear hl3
  go_enter Try.func15, Try.ntmps15
  cases q : validJ j
  · simp only [q] at hv
    go_wp2_with (first
      | (go_at_call 13; refine (hv _ (h1.ext (by repeat (first | (with_reducible first | exact Ext.refl _ | assumption | apply Ext.alloc | apply Ext.ext | apply Ext.drew | refine Ext.setCell ?_ ?_ _) | (focus (simp [go_sem]; done))))) (h2.ext (by repeat (first | (with_reducible first | exact Ext.refl _ | assumption | apply Ext.alloc | apply Ext.ext | apply Ext.drew | refine Ext.setCell ?_ ?_ _) | (focus (simp [go_sem]; done))))) (h3.ext (by repeat (first | (with_reducible first | exact Ext.refl _ | assumption | apply Ext.alloc | apply Ext.ext | apply Ext.drew | refine Ext.setCell ?_ ?_ _) | (focus (simp [go_sem]; done))))) (h4.ext (by repeat (first | (with_reducible first | exact Ext.refl _ | assumption | apply Ext.alloc | apply Ext.ext | apply Ext.drew | refine Ext.setCell ?_ ?_ _) | (focus (simp [go_sem]; done)))))).mono ?_; rintro e w1 ⟨rfl, hxq⟩; obtain ⟨xq, rfl⟩ := hxq.out; clear hxq)
      | fail)
    refine bodyPost_ret (v := .tuple #[.int .i64 0, .int .i64 3]) (by simp [results, Try.results15, go_sem]) rfl ?_
    exact ⟨rfl, (by repeat (first | (with_reducible first | exact Ext.refl _ | assumption | apply Ext.alloc | apply Ext.ext | apply Ext.drew | refine Ext.setCell ?_ ?_ _) | (focus (simp [go_sem]; done))))⟩
  · simp only [q] at hv
    go_wp2_with (first
      | (go_at_call 13; refine (hv _ (h1.ext (by repeat (first | (with_reducible first | exact Ext.refl _ | assumption | apply Ext.alloc | apply Ext.ext | apply Ext.drew | refine Ext.setCell ?_ ?_ _) | (focus (simp [go_sem]; done))))) (h2.ext (by repeat (first | (with_reducible first | exact Ext.refl _ | assumption | apply Ext.alloc | apply Ext.ext | apply Ext.drew | refine Ext.setCell ?_ ?_ _) | (focus (simp [go_sem]; done))))) (h3.ext (by repeat (first | (with_reducible first | exact Ext.refl _ | assumption | apply Ext.alloc | apply Ext.ext | apply Ext.drew | refine Ext.setCell ?_ ?_ _) | (focus (simp [go_sem]; done))))) (h4.ext (by repeat (first | (with_reducible first | exact Ext.refl _ | assumption | apply Ext.alloc | apply Ext.ext | apply Ext.drew | refine Ext.setCell ?_ ?_ _) | (focus (simp [go_sem]; done)))))).mono ?_; rintro e w1 ⟨rfl, hxq⟩; obtain ⟨xq, rfl⟩ := hxq.out; clear hxq)
      | (go_at_call 29; refine (hr _).mono ?_; rintro e w1 ⟨rfl, hxq⟩; obtain ⟨xq, rfl⟩ := hxq.out; clear hxq)
      | fail)
    refine bodyPost_ret (v := .tuple #[.int .i64 (8 - (n3 : Int)), .int .i64 0]) (by simp [results, Try.results15, go_sem]) rfl ?_
    exact ⟨rfl, (by repeat (first | (with_reducible first | exact Ext.refl _ | assumption | apply Ext.alloc | apply Ext.ext | apply Ext.drew | refine Ext.setCell ?_ ?_ _) | (focus (simp [go_sem]; done))))⟩

set_option maxRecDepth 100000 in
set_option maxHeartbeats 4000000 in
theorem jagain_any (a1 a2 a3 a4 : Option Addr) (n1 c1 n2 c2 n3 c3 n4 c4 : Nat) (j : Jar) (w : World) (h1 : Sl w a1 n1 j.up) (h2 : Sl w a2 n2 j.dn) (h3 : Bsc w a3 n3 j.ck) (hc3 : n3 ≤ c3) (hn3 : n3 ≤ 1000000) (h4 : Sl w a4 n4 j.last) (m4 : n4 ≤ 1000000) :
    Calls Try.prog 12 #[.agg #[.slice a1 n1 c1, .slice a2 n2 c2, .slice a3 n3 c3, .slice a4 n4 c4, .int .i64 j.net, .int .i64 j.sent]] w fun e w' => ∃ b d, e = .returned (.tuple #[.slice b (againJ j).1.length d, .int .i64 (againJ j).2]) ∧ Own w' 0 b (againJ j).1.length d (againJ j).1 ∧ Ext w w' := by
  have hl4 := h4.len
  have hv := fun W H1 H2 H3 H4 => jvalid_any a1 a2 a3 a4 n1 c1 n2 c2 n3 c3 n4 c4 j W H1 H2 H3 hc3 hn3 H4
  have hk := fun W H => clone_any a4 n4 c4 j.last W H (by omega)
  unfold againJ
  go_enter Try.func12, Try.ntmps12
  cases q : validJ j
  · simp only [q] at hv
    clear hl4 hk
    go_wp2_with (first
      | (go_at_call 13; refine (hv _ (h1.ext (by repeat (first | (with_reducible first | exact Ext.refl _ | assumption | apply Ext.alloc | apply Ext.ext | apply Ext.drew | refine Ext.setCell ?_ ?_ _) | (focus (simp [go_sem]; done))))) (h2.ext (by repeat (first | (with_reducible first | exact Ext.refl _ | assumption | apply Ext.alloc | apply Ext.ext | apply Ext.drew | refine Ext.setCell ?_ ?_ _) | (focus (simp [go_sem]; done))))) (h3.ext (by repeat (first | (with_reducible first | exact Ext.refl _ | assumption | apply Ext.alloc | apply Ext.ext | apply Ext.drew | refine Ext.setCell ?_ ?_ _) | (focus (simp [go_sem]; done))))) (h4.ext (by repeat (first | (with_reducible first | exact Ext.refl _ | assumption | apply Ext.alloc | apply Ext.ext | apply Ext.drew | refine Ext.setCell ?_ ?_ _) | (focus (simp [go_sem]; done)))))).mono ?_; rintro e w1 ⟨rfl, hxq⟩; obtain ⟨xq, rfl⟩ := hxq.out; clear hxq)
      | fail)
    refine bodyPost_ret (v := .tuple #[.slice none 0 0, .int .i64 3]) (by simp [results, Try.results12, go_sem]) rfl ?_
    exact ⟨none, 0, rfl, Own.nil _ _, (by repeat (first | (with_reducible first | exact Ext.refl _ | assumption | apply Ext.alloc | apply Ext.ext | apply Ext.drew | refine Ext.setCell ?_ ?_ _) | (focus (simp [go_sem]; done))))⟩
  · simp only [q] at hv
    by_cases q4 : n4 = 0
    · have i4 : ((n4 : Int) == 0) = true := by rw [beq_iff_eq]; omega
      rw [if_pos rfl, if_pos (by omega)]
      clear hl4 hk q4
      go_wp2_with (first
        | (go_at_call 13; refine (hv _ (h1.ext (by repeat (first | (with_reducible first | exact Ext.refl _ | assumption | apply Ext.alloc | apply Ext.ext | apply Ext.drew | refine Ext.setCell ?_ ?_ _) | (focus (simp [go_sem]; done))))) (h2.ext (by repeat (first | (with_reducible first | exact Ext.refl _ | assumption | apply Ext.alloc | apply Ext.ext | apply Ext.drew | refine Ext.setCell ?_ ?_ _) | (focus (simp [go_sem]; done))))) (h3.ext (by repeat (first | (with_reducible first | exact Ext.refl _ | assumption | apply Ext.alloc | apply Ext.ext | apply Ext.drew | refine Ext.setCell ?_ ?_ _) | (focus (simp [go_sem]; done))))) (h4.ext (by repeat (first | (with_reducible first | exact Ext.refl _ | assumption | apply Ext.alloc | apply Ext.ext | apply Ext.drew | refine Ext.setCell ?_ ?_ _) | (focus (simp [go_sem]; done)))))).mono ?_; rintro e w1 ⟨rfl, hxq⟩; obtain ⟨xq, rfl⟩ := hxq.out; clear hxq)
        | fail)
      refine bodyPost_ret (v := .tuple #[.slice none 0 0, .int .i64 10]) (by simp [results, Try.results12, go_sem]) rfl ?_
      exact ⟨none, 0, rfl, Own.nil _ _, (by repeat (first | (with_reducible first | exact Ext.refl _ | assumption | apply Ext.alloc | apply Ext.ext | apply Ext.drew | refine Ext.setCell ?_ ?_ _) | (focus (simp [go_sem]; done))))⟩
    · have i4 : ((n4 : Int) == 0) = false := by rw [beq_eq_false_iff_ne]; omega
      rw [if_pos rfl, if_neg (by omega)]
      clear q4
      go_wp2_with (first
        | (go_at_call 13; refine (hv _ (h1.ext (by repeat (first | (with_reducible first | exact Ext.refl _ | assumption | apply Ext.alloc | apply Ext.ext | apply Ext.drew | refine Ext.setCell ?_ ?_ _) | (focus (simp [go_sem]; done))))) (h2.ext (by repeat (first | (with_reducible first | exact Ext.refl _ | assumption | apply Ext.alloc | apply Ext.ext | apply Ext.drew | refine Ext.setCell ?_ ?_ _) | (focus (simp [go_sem]; done))))) (h3.ext (by repeat (first | (with_reducible first | exact Ext.refl _ | assumption | apply Ext.alloc | apply Ext.ext | apply Ext.drew | refine Ext.setCell ?_ ?_ _) | (focus (simp [go_sem]; done))))) (h4.ext (by repeat (first | (with_reducible first | exact Ext.refl _ | assumption | apply Ext.alloc | apply Ext.ext | apply Ext.drew | refine Ext.setCell ?_ ?_ _) | (focus (simp [go_sem]; done)))))).mono ?_; rintro e w1 ⟨rfl, hxq⟩; obtain ⟨xq, rfl⟩ := hxq.out; clear hxq)
        | fail)
      (with_reducible refine (hk _ (h4.ext (by repeat (first | (with_reducible first | exact Ext.refl _ | assumption | apply Ext.alloc | apply Ext.ext | apply Ext.drew | refine Ext.setCell ?_ ?_ _) | (focus (simp [go_sem]; done)))))).mono ?_)
      rintro e w1 ⟨b, d, rfl, hO, hx1⟩
      go_wp2
      refine bodyPost_ret (v := .tuple #[.slice b n4 d, .int .i64 0]) (by simp [results, Try.results12, go_sem]) rfl ?_
      exact ⟨b, d, rfl, hO.mono (Nat.zero_le _), Ext.trans (by repeat (first | (with_reducible first | exact Ext.refl _ | assumption | apply Ext.alloc | apply Ext.ext | apply Ext.drew | refine Ext.setCell ?_ ?_ _) | (focus (simp [go_sem]; done)))) hx1⟩
end Go.Proofs.Ytdmifbfgeeldnaa

/- The walks of layer 22: Put. -/
namespace Go.Jar
/-- What Put answers. -/
def putJ (j : Jar) (L : List (List UInt8)) : Jar × Int := if validJ j && allC L then (addJ j L, 0) else (zeroJ, 3)
end Go.Jar
namespace Go.Sec
open Go.RowKit
/-- The block of a row of slices of bytes. -/
def Typ3 (w : World) (a : Option Addr) : Prop := ∀ b o, a = some ⟨b, o, none⟩ → ∃ vs, Blk w b 25 vs
theorem Typ3.none (w : World) : Typ3 w none := fun _ _ h => by cases h
theorem Typ3.ext {w w' : World} {a : Option Addr} (h : Typ3 w a) (hx : Ext w w') : Typ3 w' a := fun b o e => (h b o e).imp fun _ h => h.extB hx
theorem Typ3.ne {w : World} {a : Option Addr} {g : Nat} {T : TypeId} {us : List Value} (h : Typ3 w a) (hB : Blk w g T us) (hT : T ≠ 25) : ∀ b o, a = some ⟨b, o, Option.none⟩ → b ≠ g := fun b o e hbg => by
  obtain ⟨vs, hv⟩ := h b o e
  subst hbg
  unfold Blk at hv hB
  rw [hv] at hB
  injection hB with hB
  injection hB with _ hB
  exact hT hB.symm
theorem Typ3.mut {w w' : World} {a : Option Addr} {g : Nat} {T : TypeId} {us : List Value} (h : Typ3 w a) (hB : Blk w g T us) (hT : T ≠ 25) (hM : Mut g w w') : Typ3 w' a := fun b o e => (h b o e).imp fun _ hv => Blk.turn hM hv (h.ne hB hT b o e)
theorem OwnB.typ3 {w : World} {base n c : Nat} {a : Option Addr} {L : List (List UInt8)} (h : OwnB w base a n c L) : Typ3 w a := fun b o e => by
  obtain ⟨_, xs, h2, _⟩ := h
  rcases h2.2 with ⟨h1, _⟩ | ⟨g, cap, cur, hv, hb, hg, _⟩
  · injection h1 with h1; rw [h1] at e; cases e
  · injection hv with h1; rw [h1] at e; injection e with e; injection e with e _
    subst e
    exact ⟨cur.toList, by unfold Blk; simpa using hg⟩
end Go.Sec
namespace Go.Proofs.Ytdmifbfgeeldnaa
open Go.RowKit Go.Sec Go.Oct Go.Jar BigFrame

theorem nameC {P : Program} {f : FuncId} {vs : Array Value} {w : World} {Q : Ending → World → Prop} (h : ∀ W, W = w → Calls P f vs W Q) : Calls P f vs w Q := h w rfl
/-- A jar in new memory and an error's number. -/
def JarE (r : Jar × Int) (w : World) (e : Ending) (w' : World) : Prop := ∃ b1 n1 d1 b2 n2 d2 b3 n3 d3 b4 n4 d4, e = .returned (.tuple #[.agg #[.slice b1 n1 d1, .slice b2 n2 d2, .slice b3 n3 d3, .slice b4 n4 d4, .int .i64 r.1.net, .int .i64 r.1.sent], .int .i64 r.2]) ∧
  Own w' 0 b1 n1 d1 r.1.up ∧ Own w' 0 b2 n2 d2 r.1.dn ∧ Bsc w' b3 n3 r.1.ck ∧ n3 ≤ d3 ∧ Typ3 w' b3 ∧ Own w' 0 b4 n4 d4 r.1.last ∧ Ext w w'
theorem JarE.zero (w w' : World) (e : Int) (hx : Ext w w') : JarE (zeroJ, e) w (.returned (.tuple #[.agg #[.slice none 0 0, .slice none 0 0, .slice none 0 0, .slice none 0 0, .int .i64 0, .int .i64 0], .int .i64 e])) w' :=
  ⟨none, 0, 0, none, 0, 0, none, 0, 0, none, 0, 0, rfl, Own.nil _ _, Own.nil _ _, Bsc.nil _ _, Nat.le_refl _, Typ3.none _, Own.nil _ _, hx⟩
set_option maxRecDepth 100000 in
set_option maxHeartbeats 8000000 in
theorem jput_any (a1 a2 a3 a4 a : Option Addr) (n1 c1 n2 c2 n3 c3 n4 c4 n c : Nat) (j : Jar) (L : List (List UInt8)) (w : World) (h1 : Sl w a1 n1 j.up) (m1 : n1 ≤ 1000000) (h2 : Sl w a2 n2 j.dn) (m2 : n2 ≤ 1000000) (h3 : Bsc w a3 n3 j.ck) (hc3 : n3 ≤ c3) (hn3 : n3 ≤ 100000) (hb3 : ∀ x ∈ j.ck, x.length ≤ 1000000) (h4 : Sl w a4 n4 j.last) (m4 : n4 ≤ 1000000)
    (hL : Bsc w a n L) (hnn : n ≤ 100000) (hbL : ∀ x ∈ L, x.length ≤ 1000000) :
    Calls Try.prog 8 #[.agg #[.slice a1 n1 c1, .slice a2 n2 c2, .slice a3 n3 c3, .slice a4 n4 c4, .int .i64 j.net, .int .i64 j.sent], .slice a n c] w (JarE (putJ j L) w) := by
  have hv := fun W H1 H2 H3 H4 => jvalid_any a1 a2 a3 a4 n1 c1 n2 c2 n3 c3 n4 c4 j W H1 H2 H3 hc3 (by omega) H4
  have hp := fun W H => containsPut_any a n c L W H (by omega)
  have ha := fun W H1 H2 H3 H4 H5 => jadded_any a1 a2 a3 a4 a n1 c1 n2 c2 n3 c3 n4 c4 n c j L W H1 m1 H2 m2 H3 hn3 hb3 H4 m4 H5 hnn hbL
  unfold putJ
  go_enter Try.func8, Try.ntmps8
  cases q : validJ j
  · simp only [q] at hv
    go_wp2_with (first
      | (go_at_call 13; refine (hv _ (h1.ext (by repeat (first | (with_reducible first | exact Ext.refl _ | assumption | apply Ext.alloc | apply Ext.ext | apply Ext.drew | refine Ext.setCell ?_ ?_ _) | (focus (simp [go_sem]; done))))) (h2.ext (by repeat (first | (with_reducible first | exact Ext.refl _ | assumption | apply Ext.alloc | apply Ext.ext | apply Ext.drew | refine Ext.setCell ?_ ?_ _) | (focus (simp [go_sem]; done))))) (h3.ext (by repeat (first | (with_reducible first | exact Ext.refl _ | assumption | apply Ext.alloc | apply Ext.ext | apply Ext.drew | refine Ext.setCell ?_ ?_ _) | (focus (simp [go_sem]; done))))) (h4.ext (by repeat (first | (with_reducible first | exact Ext.refl _ | assumption | apply Ext.alloc | apply Ext.ext | apply Ext.drew | refine Ext.setCell ?_ ?_ _) | (focus (simp [go_sem]; done)))))).mono ?_; rintro e w1 ⟨rfl, hxq⟩; obtain ⟨xq, rfl⟩ := hxq.out; clear hxq)
      | fail)
    refine bodyPost_ret (v := .tuple #[.agg #[.slice none 0 0, .slice none 0 0, .slice none 0 0, .slice none 0 0, .int .i64 0, .int .i64 0], .int .i64 3]) (by simp [results, Try.results8, go_sem]) rfl ?_
    exact JarE.zero _ _ _ (by repeat (first | (with_reducible first | exact Ext.refl _ | assumption | apply Ext.alloc | apply Ext.ext | apply Ext.drew | refine Ext.setCell ?_ ?_ _) | (focus (simp [go_sem]; done))))
  · simp only [q] at hv
    cases qL : allC L
    · simp only [qL] at hp
      go_wp2_with (first
        | (go_at_call 13; refine (hv _ (h1.ext (by repeat (first | (with_reducible first | exact Ext.refl _ | assumption | apply Ext.alloc | apply Ext.ext | apply Ext.drew | refine Ext.setCell ?_ ?_ _) | (focus (simp [go_sem]; done))))) (h2.ext (by repeat (first | (with_reducible first | exact Ext.refl _ | assumption | apply Ext.alloc | apply Ext.ext | apply Ext.drew | refine Ext.setCell ?_ ?_ _) | (focus (simp [go_sem]; done))))) (h3.ext (by repeat (first | (with_reducible first | exact Ext.refl _ | assumption | apply Ext.alloc | apply Ext.ext | apply Ext.drew | refine Ext.setCell ?_ ?_ _) | (focus (simp [go_sem]; done))))) (h4.ext (by repeat (first | (with_reducible first | exact Ext.refl _ | assumption | apply Ext.alloc | apply Ext.ext | apply Ext.drew | refine Ext.setCell ?_ ?_ _) | (focus (simp [go_sem]; done)))))).mono ?_; rintro e w1 ⟨rfl, hxq⟩; obtain ⟨xq, rfl⟩ := hxq.out; clear hxq)
        | (go_at_call 20; refine (hp _ (hL.ext (by repeat (first | (with_reducible first | exact Ext.refl _ | assumption | apply Ext.alloc | apply Ext.ext | apply Ext.drew | refine Ext.setCell ?_ ?_ _) | (focus (simp [go_sem]; done)))))).mono ?_; rintro e w1 ⟨rfl, hxq⟩; obtain ⟨xq, rfl⟩ := hxq.out; clear hxq)
        | fail)
      refine bodyPost_ret (v := .tuple #[.agg #[.slice none 0 0, .slice none 0 0, .slice none 0 0, .slice none 0 0, .int .i64 0, .int .i64 0], .int .i64 3]) (by simp [results, Try.results8, go_sem]) rfl ?_
      exact JarE.zero _ _ _ (by repeat (first | (with_reducible first | exact Ext.refl _ | assumption | apply Ext.alloc | apply Ext.ext | apply Ext.drew | refine Ext.setCell ?_ ?_ _) | (focus (simp [go_sem]; done))))
    · simp only [qL] at hp
      go_wp2_with (first
        | (go_at_call 13; refine (hv _ (h1.ext (by repeat (first | (with_reducible first | exact Ext.refl _ | assumption | apply Ext.alloc | apply Ext.ext | apply Ext.drew | refine Ext.setCell ?_ ?_ _) | (focus (simp [go_sem]; done))))) (h2.ext (by repeat (first | (with_reducible first | exact Ext.refl _ | assumption | apply Ext.alloc | apply Ext.ext | apply Ext.drew | refine Ext.setCell ?_ ?_ _) | (focus (simp [go_sem]; done))))) (h3.ext (by repeat (first | (with_reducible first | exact Ext.refl _ | assumption | apply Ext.alloc | apply Ext.ext | apply Ext.drew | refine Ext.setCell ?_ ?_ _) | (focus (simp [go_sem]; done))))) (h4.ext (by repeat (first | (with_reducible first | exact Ext.refl _ | assumption | apply Ext.alloc | apply Ext.ext | apply Ext.drew | refine Ext.setCell ?_ ?_ _) | (focus (simp [go_sem]; done)))))).mono ?_; rintro e w1 ⟨rfl, hxq⟩; obtain ⟨xq, rfl⟩ := hxq.out; clear hxq)
        | (go_at_call 20; refine (hp _ (hL.ext (by repeat (first | (with_reducible first | exact Ext.refl _ | assumption | apply Ext.alloc | apply Ext.ext | apply Ext.drew | refine Ext.setCell ?_ ?_ _) | (focus (simp [go_sem]; done)))))).mono ?_; rintro e w1 ⟨rfl, hxq⟩; obtain ⟨xq, rfl⟩ := hxq.out; clear hxq)
        | fail)
      refine nameC ?_
      intro W hW
      have hE : Ext w W := by rw [hW]; exact (by repeat (first | (with_reducible first | exact Ext.refl _ | assumption | apply Ext.alloc | apply Ext.ext | apply Ext.drew | refine Ext.setCell ?_ ?_ _) | (focus (simp [go_sem]; done))))
      have hR : Blk W (w.heap.size + 1) 30 [.slice none 0 0, .slice none 0 0, .slice none 0 0, .slice none 0 0, .int .i64 0, .int .i64 0] := by rw [hW]; exact (by repeat (first | assumption | (refine Blk.newAt _ _ _ _ ?_; first | rfl | (simp only [World.size_alloc]; done)) | apply Blk.ext | apply Blk.alloc | (refine Blk.other ?_ ?_ _; rotate_left; (simp <;> omega))))
      clear hW
      (with_reducible refine (ha _ (h1.ext hE) (h2.ext hE) (h3.ext hE) (h4.ext hE) (hL.ext hE)).mono ?_)
      rintro e w1 ⟨b1, d1, b2, d2, b3, d3, b4, d4, rfl, o1, o2, ⟨B, hB0, hBs, o3⟩, o4, hx1⟩
      have hR := hR.extB hx1
      have hE := hE.trans hx1
      have o3b := o3.bsc
      have o3c := o3.le
      haveI := hR.blt
      go_wp2_with (first
        | (refine wpList_store_arr (RJ6) rfl _ _ rfl (w.heap.size + 1) (0) rfl ([.slice b1 n1 d1, .slice b2 n2 d2, .slice b3 (addJ j L).ck.length d3, .slice b4 n4 d4, .int .i64 (addJ j L).net, .int .i64 (addJ j L).sent]) rfl (30) _ (hR) (rfl) (by simp) ((by simp; repeat' (first | rfl | constructor))) ?_; intro w9 hB9 hM9)
        | fail)
      refine bodyPost_ret (results_arr_tmp Try.results8 (RJ6) _ _ (w.heap.size + 1) (0) ([.slice b1 n1 d1, .slice b2 n2 d2, .slice b3 (addJ j L).ck.length d3, .slice b4 n4 d4, .int .i64 (addJ j L).net, .int .i64 (addJ j L).sent]) rfl (hB9.rd) (rfl) (.int .i64 0) rfl) rfl ?_
      exact ⟨b1, n1, d1, b2, n2, d2, b3, _, d3, b4, n4, d4, rfl, o1.mutT hR (by decide) hM9, o2.mutT hR (by decide) hM9, (o3.mut hR (by decide) (by simp) hM9).bsc, by omega, (o3.mut hR (by decide) (by simp) hM9).typ3, o4.mutT hR (by decide) hM9, Below.trans hE (hM9.below (by omega) hE.size)⟩
end Go.Proofs.Ytdmifbfgeeldnaa

/- The walks of layer 22: Move. -/
namespace Go.Jar
/-- What Move answers. -/
def moveJ (j : Jar) (k : Int) : Jar × Int := if validJ j then (if k < 0 then (zeroJ, 4) else (if k = j.net then j else { j with last := [], net := k }, 0)) else (zeroJ, 3)
end Go.Jar
namespace Go.Proofs.Ytdmifbfgeeldnaa
open Go.RowKit Go.Sec Go.Oct Go.Jar BigFrame

set_option maxRecDepth 100000 in
set_option maxHeartbeats 8000000 in
theorem jmove_any (a1 a2 a3 a4 : Option Addr) (n1 c1 n2 c2 n3 c3 n4 c4 : Nat) (j : Jar) (k : Int) (w : World) (h1 : Sl w a1 n1 j.up) (m1 : n1 ≤ 1000000) (h2 : Sl w a2 n2 j.dn) (m2 : n2 ≤ 1000000) (h3 : Bsc w a3 n3 j.ck) (hc3 : n3 ≤ c3) (hn3 : n3 ≤ 100000) (hb3 : ∀ x ∈ j.ck, x.length ≤ 1000000) (h4 : Sl w a4 n4 j.last) (m4 : n4 ≤ 1000000) :
    Calls Try.prog 9 #[.agg #[.slice a1 n1 c1, .slice a2 n2 c2, .slice a3 n3 c3, .slice a4 n4 c4, .int .i64 j.net, .int .i64 j.sent], .int .i64 k] w (JarE (moveJ j k) w) := by
  have hv := fun W H1 H2 H3 H4 => jvalid_any a1 a2 a3 a4 n1 c1 n2 c2 n3 c3 n4 c4 j W H1 H2 H3 hc3 (by omega) H4
  have hcl := fun W H1 H2 H3 H4 => jclone_any a1 a2 a3 a4 n1 c1 n2 c2 n3 c3 n4 c4 j W H1 m1 H2 m2 H3 hn3 hb3 H4 m4
  obtain ⟨r, hr⟩ : ∃ r, moveJ j k = r := ⟨_, rfl⟩
  have hr := Lib.hid hr
  rw [hr.out]
  go_enter Try.func9, Try.ntmps9
  cases q : validJ j
  · simp only [q] at hv
    go_wp2_with (first
      | (go_at_call 13; refine (hv _ (h1.ext (by repeat (first | (with_reducible first | exact Ext.refl _ | assumption | apply Ext.alloc | apply Ext.ext | apply Ext.drew | refine Ext.setCell ?_ ?_ _) | (focus (simp [go_sem]; done))))) (h2.ext (by repeat (first | (with_reducible first | exact Ext.refl _ | assumption | apply Ext.alloc | apply Ext.ext | apply Ext.drew | refine Ext.setCell ?_ ?_ _) | (focus (simp [go_sem]; done))))) (h3.ext (by repeat (first | (with_reducible first | exact Ext.refl _ | assumption | apply Ext.alloc | apply Ext.ext | apply Ext.drew | refine Ext.setCell ?_ ?_ _) | (focus (simp [go_sem]; done))))) (h4.ext (by repeat (first | (with_reducible first | exact Ext.refl _ | assumption | apply Ext.alloc | apply Ext.ext | apply Ext.drew | refine Ext.setCell ?_ ?_ _) | (focus (simp [go_sem]; done)))))).mono ?_; rintro e w1 ⟨rfl, hxq⟩; obtain ⟨xq, rfl⟩ := hxq.out; clear hxq)
      | fail)
    refine bodyPost_ret (v := .tuple #[.agg #[.slice none 0 0, .slice none 0 0, .slice none 0 0, .slice none 0 0, .int .i64 0, .int .i64 0], .int .i64 3]) (by simp [results, Try.results9, go_sem]) rfl ?_
    rw [show r = (zeroJ, 3) by rw [← hr.out]; unfold moveJ; rw [q]; rfl]
    exact JarE.zero _ _ _ (by repeat (first | (with_reducible first | exact Ext.refl _ | assumption | apply Ext.alloc | apply Ext.ext | apply Ext.drew | refine Ext.setCell ?_ ?_ _) | (focus (simp [go_sem]; done))))
  · simp only [q] at hv
    by_cases qk : k < 0
    · have er := Lib.hid (show r = (zeroJ, 4) by rw [← hr.out]; unfold moveJ; rw [q, if_pos rfl, if_pos qk])
      go_wp2_with (first
        | (go_at_call 13; refine (hv _ (h1.ext (by repeat (first | (with_reducible first | exact Ext.refl _ | assumption | apply Ext.alloc | apply Ext.ext | apply Ext.drew | refine Ext.setCell ?_ ?_ _) | (focus (simp [go_sem]; done))))) (h2.ext (by repeat (first | (with_reducible first | exact Ext.refl _ | assumption | apply Ext.alloc | apply Ext.ext | apply Ext.drew | refine Ext.setCell ?_ ?_ _) | (focus (simp [go_sem]; done))))) (h3.ext (by repeat (first | (with_reducible first | exact Ext.refl _ | assumption | apply Ext.alloc | apply Ext.ext | apply Ext.drew | refine Ext.setCell ?_ ?_ _) | (focus (simp [go_sem]; done))))) (h4.ext (by repeat (first | (with_reducible first | exact Ext.refl _ | assumption | apply Ext.alloc | apply Ext.ext | apply Ext.drew | refine Ext.setCell ?_ ?_ _) | (focus (simp [go_sem]; done)))))).mono ?_; rintro e w1 ⟨rfl, hxq⟩; obtain ⟨xq, rfl⟩ := hxq.out; clear hxq)
        | fail)
      refine bodyPost_ret (v := .tuple #[.agg #[.slice none 0 0, .slice none 0 0, .slice none 0 0, .slice none 0 0, .int .i64 0, .int .i64 0], .int .i64 4]) (by simp [results, Try.results9, go_sem]) rfl ?_
      rw [er.out]
      exact JarE.zero _ _ _ (by repeat (first | (with_reducible first | exact Ext.refl _ | assumption | apply Ext.alloc | apply Ext.ext | apply Ext.drew | refine Ext.setCell ?_ ?_ _) | (focus (simp [go_sem]; done))))
    · have er := Lib.hid (show r = (if k = j.net then j else { j with last := [], net := k }, 0) by rw [← hr.out]; unfold moveJ; rw [q, if_pos rfl, if_neg qk])
      go_wp2_with (first
        | (go_at_call 13; refine (hv _ (h1.ext (by repeat (first | (with_reducible first | exact Ext.refl _ | assumption | apply Ext.alloc | apply Ext.ext | apply Ext.drew | refine Ext.setCell ?_ ?_ _) | (focus (simp [go_sem]; done))))) (h2.ext (by repeat (first | (with_reducible first | exact Ext.refl _ | assumption | apply Ext.alloc | apply Ext.ext | apply Ext.drew | refine Ext.setCell ?_ ?_ _) | (focus (simp [go_sem]; done))))) (h3.ext (by repeat (first | (with_reducible first | exact Ext.refl _ | assumption | apply Ext.alloc | apply Ext.ext | apply Ext.drew | refine Ext.setCell ?_ ?_ _) | (focus (simp [go_sem]; done))))) (h4.ext (by repeat (first | (with_reducible first | exact Ext.refl _ | assumption | apply Ext.alloc | apply Ext.ext | apply Ext.drew | refine Ext.setCell ?_ ?_ _) | (focus (simp [go_sem]; done)))))).mono ?_; rintro e w1 ⟨rfl, hxq⟩; obtain ⟨xq, rfl⟩ := hxq.out; clear hxq)
        | fail)
      refine nameC ?_
      intro W hW
      have hE : Ext w W := by rw [hW]; exact (by repeat (first | (with_reducible first | exact Ext.refl _ | assumption | apply Ext.alloc | apply Ext.ext | apply Ext.drew | refine Ext.setCell ?_ ?_ _) | (focus (simp [go_sem]; done))))
      have hB : Blk W w.heap.size 30 [.slice a1 n1 c1, .slice a2 n2 c2, .slice a3 n3 c3, .slice a4 n4 c4, .int .i64 j.net, .int .i64 j.sent] := by rw [hW]; exact (by repeat (first | assumption | (refine Blk.newAt _ _ _ _ ?_; first | rfl | (simp only [World.size_alloc]; done)) | apply Blk.ext | apply Blk.alloc | (refine Blk.other ?_ ?_ _; rotate_left; (simp <;> omega))))
      have hR : Blk W (w.heap.size + 1) 30 [.slice none 0 0, .slice none 0 0, .slice none 0 0, .slice none 0 0, .int .i64 0, .int .i64 0] := by rw [hW]; exact (by repeat (first | assumption | (refine Blk.newAt _ _ _ _ ?_; first | rfl | (simp only [World.size_alloc]; done)) | apply Blk.ext | apply Blk.alloc | (refine Blk.other ?_ ?_ _; rotate_left; (simp <;> omega))))
      clear hW
      (with_reducible refine (hcl _ (h1.ext hE) (h2.ext hE) (h3.ext hE) (h4.ext hE)).mono ?_)
      rintro e w1 ⟨b1, d1, b2, d2, b3, d3, b4, d4, rfl, o1, o2, ⟨B, hB0, hBs, o3⟩, o4, hx1⟩
      have hR := hR.extB hx1
      have hB := hB.extB hx1
      have hE := hE.trans hx1
      have hlt := hR.lt
      have hl3 := h3.len
      have hl4 := h4.len
      clear hcl hv hx1
      haveI := hB.blt
      have f4 : w1.cell? ⟨w.heap.size, 4, none⟩ = some (.int .i64 j.net) := hB.cell? 4 rfl
      by_cases qn : k = j.net
      · have er := Lib.hid (show r = (j, 0) by rw [er.out, if_pos qn])
        have qi : (k != j.net) = false := by simp [qn]
        clear hr qn
        go_wp2_with (first
          | (refine wpList_alloc_store (RJ6) rfl rfl _ _ rfl rfl rfl rfl (by simp [Act.put]) ([.slice b1 n1 d1, .slice b2 n2 d2, .slice b3 n3 d3, .slice b4 n4 d4, .int .i64 j.net, .int .i64 j.sent]) rfl (by simp) (rfl) ((by simp; repeat' (first | rfl | constructor))) ?_; intro x hz _)
          | (refine wpList_load_arr (RJ6) rfl _ rfl (w1.heap.size) (0) rfl ([.slice b1 n1 d1, .slice b2 n2 d2, .slice b3 n3 d3, .slice b4 n4 d4, .int .i64 j.net, .int .i64 j.sent]) (((hz.extB (by repeat (first | (with_reducible first | exact Ext.refl _ | assumption | apply Ext.alloc | apply Ext.ext | apply Ext.drew | refine Ext.setCell ?_ ?_ _) | (focus (simp [go_sem]; done))))).rd)) (rfl) ?_)
          | (refine wpList_store_arr (RJ6) rfl _ _ rfl (w.heap.size + 1) (0) rfl ([.slice b1 n1 d1, .slice b2 n2 d2, .slice b3 n3 d3, .slice b4 n4 d4, .int .i64 j.net, .int .i64 j.sent]) rfl (30) _ ((hR.extB (by repeat (first | (with_reducible first | exact Ext.refl _ | assumption | apply Ext.alloc | apply Ext.ext | apply Ext.drew | refine Ext.setCell ?_ ?_ _) | (focus (simp [go_sem]; done)))))) (rfl) (by simp) ((by simp; repeat' (first | rfl | constructor))) ?_; intro w9 hB9 hM9)
          | fail)
        refine bodyPost_ret (results_arr_tmp Try.results9 (RJ6) _ _ (w.heap.size + 1) (0) ([.slice b1 n1 d1, .slice b2 n2 d2, .slice b3 n3 d3, .slice b4 n4 d4, .int .i64 j.net, .int .i64 j.sent]) rfl (hB9.rd) (rfl) (.int .i64 0) rfl) rfl ?_
        rw [er.out]
        have hX : Ext w1 (w1.ext x) := (by repeat (first | (with_reducible first | exact Ext.refl _ | assumption | apply Ext.alloc | apply Ext.ext | apply Ext.drew | refine Ext.setCell ?_ ?_ _) | (focus (simp [go_sem]; done))))
        have hE := hE.trans hX
        have hR := hR.extB hX
        exact ⟨b1, n1, d1, b2, n2, d2, b3, _, d3, b4, n4, d4, rfl, (o1.ext hX).mutT hR (by decide) hM9, (o2.ext hX).mutT hR (by decide) hM9, ((o3.ext hX).mut hR (by decide) (by simp) hM9).bsc, o3.le, ((o3.ext hX).mut hR (by decide) (by simp) hM9).typ3, (o4.ext hX).mutT hR (by decide) hM9, Below.trans hE (hM9.below (by omega) hE.size)⟩
      · have er := Lib.hid (show r = ({ j with last := [], net := k }, 0) by rw [er.out, if_neg qn])
        have qi : (k != j.net) = true := by simp [qn]
        clear hr qn
        go_wp2_with (first
          | ((refine wpList_alloc_store (RJ6) rfl rfl _ _ rfl rfl rfl rfl (by simp [Act.put]) ([.slice b1 n1 d1, .slice b2 n2 d2, .slice b3 n3 d3, .slice b4 n4 d4, .int .i64 j.net, .int .i64 j.sent]) rfl (by simp) (rfl) ((by simp; repeat' (first | rfl | constructor))) ?_; intro x hz _); haveI := hz.blt; have q3 := hz.cell? 3 rfl; have q4 := hz.cell? 4 rfl; have z3 := hz.free 3; have z4 := hz.free 4; have hS : Blk (((w1.ext x).setCell ⟨w1.heap.size, 3, none⟩ (.slice none 0 0)).setCell ⟨w1.heap.size, 4, none⟩ (.int .i64 k)) w1.heap.size 30 [.slice b1 n1 d1, .slice b2 n2 d2, .slice b3 n3 d3, .slice none 0 0, .int .i64 k, .int .i64 j.sent] := (hz.set 3 (.slice none 0 0)).set 4 (.int .i64 k); have hMS : Mut w1.heap.size (w1.ext x) (((w1.ext x).setCell ⟨w1.heap.size, 3, none⟩ (.slice none 0 0)).setCell ⟨w1.heap.size, 4, none⟩ (.int .i64 k)) := ((Mut.refl _ _).setCell 3 _).setCell 4 _; have hRS := Blk.turn hMS (hR.extB (show Ext w1 (w1.ext x) from (by repeat (first | (with_reducible first | exact Ext.refl _ | assumption | apply Ext.alloc | apply Ext.ext | apply Ext.drew | refine Ext.setCell ?_ ?_ _) | (focus (simp [go_sem]; done)))))) (by omega))
          | (refine wpList_load_arr (RJ6) rfl _ rfl (w1.heap.size) (0) rfl ([.slice b1 n1 d1, .slice b2 n2 d2, .slice b3 n3 d3, .slice none 0 0, .int .i64 k, .int .i64 j.sent]) (hS.rd) (rfl) ?_)
          | (refine wpList_store_arr (RJ6) rfl _ _ rfl (w.heap.size + 1) (0) rfl ([.slice b1 n1 d1, .slice b2 n2 d2, .slice b3 n3 d3, .slice none 0 0, .int .i64 k, .int .i64 j.sent]) rfl (30) _ (hRS) (rfl) (by simp) ((by simp; repeat' (first | rfl | constructor))) ?_; intro w9 hB9 hM9)
          | fail)
        refine bodyPost_ret (results_arr_tmp Try.results9 (RJ6) _ _ (w.heap.size + 1) (0) ([.slice b1 n1 d1, .slice b2 n2 d2, .slice b3 n3 d3, .slice none 0 0, .int .i64 k, .int .i64 j.sent]) rfl (hB9.rd) (rfl) (.int .i64 0) rfl) rfl ?_
        rw [er.out]
        have hX : Ext w1 (w1.ext x) := (by repeat (first | (with_reducible first | exact Ext.refl _ | assumption | apply Ext.alloc | apply Ext.ext | apply Ext.drew | refine Ext.setCell ?_ ?_ _) | (focus (simp [go_sem]; done))))
        have hE := hE.trans hX
        have hES : Ext w _ := Below.trans hE (hMS.below (by omega) hE.size)
        exact ⟨b1, n1, d1, b2, n2, d2, b3, _, d3, none, 0, 0, rfl, ((o1.ext hX).mutT hz (by decide) hMS).mutT hRS (by decide) hM9, ((o2.ext hX).mutT hz (by decide) hMS).mutT hRS (by decide) hM9, (((o3.ext hX).mut hz (by decide) (by simp) hMS).mut hRS (by decide) (by simp) hM9).bsc, o3.le, (((o3.ext hX).mut hz (by decide) (by simp) hMS).mut hRS (by decide) (by simp) hM9).typ3, Own.nil _ _, Below.trans hES (hM9.below (by omega) hES.size)⟩
end Go.Proofs.Ytdmifbfgeeldnaa
