/- Lemmas of this claim, several texts joined. -/
import Derived.Test.YtdmifbfgeeldnaaZ3
import Derived.Test.YtdmifbfgeeldnaaZ4
import Derived.Test.YtdmifbfgeeldnaaZ5
import Derived.Test.YtdmifbfgeeldnaaZ9
import Derived.Test.YtdmifbfgeeldnaaZ10
import Derived.Test.YtdmifbfgeeldnaaZ16
import Derived.Test.YtdmifbfgeeldnaaZ24
set_option linter.unusedVariables false
set_option linter.unusedSimpArgs false
/- Layer 6: check, copies of lists, the stream of a tag. -/
namespace Go.Proofs.Ytdmifbfgeeldnaa
open Go.RowKit Go.Sec Go.Oct Go.Aes BigFrame

set_option maxRecDepth 100000 in
theorem long1_any (a : Option Addr) (n c : Nat) (l : List UInt8) (w : World) (h : Sl w a n l) :
    Calls Try.prog 63 #[.slice a n c] w fun e w' => e = .returned (.bool (decide (65519 < l.length))) ∧ Ext w w' := by
  have hl := h.len
  by_cases hn : 65519 < n
  · have hI : (65519 : Int) < (n : Int) := by omega
    have e := Lib.hid (show decide (65519 < l.length) = true by simp; omega)
    clear hl
    go_enter Try.func63, Try.ntmps63
    go_wp2
    go_ret
    exact ⟨by rw [e.out]; rfl, Ext.refl _⟩
  · have hI : ¬ (65519 : Int) < (n : Int) := by omega
    have e := Lib.hid (show decide (65519 < l.length) = false by simp; omega)
    clear hl
    go_enter Try.func63, Try.ntmps63
    go_wp2
    go_ret
    exact ⟨by rw [e.out]; rfl, Ext.refl _⟩

def IdxLong (A : List (List UInt8)) (w : World) (e : Ending) (w' : World) : Prop := ∃ r : Int, e = .returned (.int .i64 r) ∧ (0 ≤ r ↔ longA A = true) ∧ Ext w w'
set_option maxRecDepth 100000 in
set_option maxHeartbeats 4000000 in
theorem indexLong_any (a : Option Addr) (n c : Nat) (A : List (List UInt8)) (w : World) (h : Bsc w a n A) (hn : n ≤ 1000000) :
    Calls Try.prog 35 #[.slice a n c, .func (.func 63) #[] #[]] w (IdxLong A w) := by
  have hl := h.len
  go_enter Try.func35, Try.ntmps35
  go_wp2_with fail
  go_loopw [8] (fun v8 wr => ∃ i : Nat, i ≤ n ∧ v8 = .int .i64 i ∧ Hid (longA (A.take i) = false) ∧ Ext w wr) (fun v8 _ => n - (intOf v8).toNat)
  case atStart => exact ⟨0, by omega, rfl, Lib.hid rfl, Ext.refl _⟩
  case round =>
    obtain ⟨i, hi, rfl, hm, hx⟩ := hrel
    obtain ⟨x, rfl⟩ := hx.out
    by_cases hlt : i < n
    · obtain ⟨b0, o0, a', n', c', rfl, hb0, hcell, hc', hS⟩ := (h.ext hx).at i hlt
      have i0 : (0 : Int) ≤ (i : Int) := by omega
      have i1 : (i : Int) < (n : Int) := by omega
      have hsu := Lib.hid (show longA (A.take (i + 1)) = decide (65519 < (A[i]'(by omega)).length) by
        rw [List.take_succ_eq_append_getElem (by omega)]
        unfold longA
        rw [List.any_append]
        have := hm.out
        unfold longA at this
        rw [this]; simp)
      have htr := Lib.hid (show longA (A.take (i + 1)) = true → longA A = true from fun h => by
        unfold longA at h ⊢
        obtain ⟨x, hx, hp⟩ := List.any_eq_true.1 h
        exact List.any_eq_true.2 ⟨x, List.mem_of_mem_take hx, hp⟩)
      go_wp2_with fail
      refine (long1_any _ _ _ _ _ hS).mono ?_; rintro e w1 ⟨rfl, hx1⟩
      obtain ⟨x1, rfl⟩ := hx1.out
      cases hb : decide (65519 < (A[i]'(by omega)).length)
      · have hm2 := Lib.hid (show longA (A.take (i + 1)) = false by rw [hsu.out, hb])
        clear hb
        go_wp2_with fail
        go_roundw
        case rel => exact ⟨i + 1, by omega, by go_num, hm2, (by repeat (first | (with_reducible first | exact Ext.refl _ | assumption | apply Ext.alloc | apply Ext.ext | apply Ext.drew | refine Ext.setCell ?_ ?_ _) | (focus (simp [go_sem]; done))))⟩
        case measure => simp [intOf]; omega
      · have hm2 := Lib.hid (show longA A = true from htr.out (by rw [hsu.out, hb]))
        clear hb
        go_wp2_with fail
        go_ret
        exact ⟨i, rfl, by rw [hm2.out]; simp, (by repeat (first | (with_reducible first | exact Ext.refl _ | assumption | apply Ext.alloc | apply Ext.ext | apply Ext.drew | refine Ext.setCell ?_ ?_ _) | (focus (simp [go_sem]; done))))⟩
    · obtain rfl : i = n := by omega
      have hlo := Lib.hid (show longA A = false by have := hm.out; rwa [List.take_of_length_le (by omega)] at this)
      go_wp2_with fail
      go_ret
      exact ⟨-1, rfl, by rw [hlo.out]; simp, (by repeat (first | (with_reducible first | exact Ext.refl _ | assumption | apply Ext.alloc | apply Ext.ext | apply Ext.drew | refine Ext.setCell ?_ ?_ _) | (focus (simp [go_sem]; done))))⟩

theorem containsLong_any (a : Option Addr) (n c : Nat) (A : List (List UInt8)) (w : World) (h : Bsc w a n A) (hn : n ≤ 1000000) :
    Calls Try.prog 20 #[.slice a n c, .func (.func 63) #[] #[]] w fun e w' => e = .returned (.bool (longA A)) ∧ Ext w w' := by
  go_enter Try.func20, Try.ntmps20
  go_wp2_with fail
  refine (indexLong_any _ _ _ _ _ h hn).mono ?_; rintro e w1 ⟨r, rfl, hr, hx1⟩
  have hd := Lib.hid (show decide (0 ≤ r) = longA A by rw [Bool.eq_iff_iff]; simpa using hr)
  clear hr
  go_wp2_with fail
  go_ret
  exact ⟨by rw [← hd.out]; rfl, hx1⟩

theorem ne32 {n : Nat} (h : n ≠ 32) : ((n : Int) != 32) = true := by rw [bne_iff_ne]; omega
set_option maxRecDepth 100000 in
set_option maxHeartbeats 4000000 in
theorem check_any (a b : Option Addr) (n c m d : Nat) (ky : List UInt8) (A : List (List UInt8)) (w : World) (hk : Sl w a n ky) (hA : Bsc w b m A) (hm : m ≤ 1000000) :
    Calls Try.prog 57 #[.slice a n c, .slice b m d] w fun e w' => e = .returned (.int .i64 (checkA ky A)) ∧ Ext w w' := by
  have hkl := hk.len
  have hAl := hA.len
  by_cases h1 : n = 32
  · by_cases h2 : 16 < m
    · have e := Lib.hid (show checkA ky A = 8 by unfold checkA; rw [if_neg (by omega), if_pos (by omega)])
      have hI : ((n : Int) != 32) = false := by rw [bne_eq_false_iff_eq]; omega
      have hI2 : (16 : Int) < (m : Int) := by omega
      clear hkl h1
      go_enter Try.func57, Try.ntmps57
      go_wp2_with fail
      go_ret
      exact ⟨by rw [e.out]; rfl, Ext.refl _⟩
    · cases hb : longA A
      all_goals
        have e := Lib.hid (show checkA ky A = if longA A then 2 else 0 by unfold checkA; rw [if_neg (by omega), if_neg (by omega)])
        rw [hb] at e
        have hI : ((n : Int) != 32) = false := by rw [bne_eq_false_iff_eq]; omega
        have hI2 : ¬ (16 : Int) < (m : Int) := by omega
        have hc := fun w h => containsLong_any b m d A w h hm
        rw [hb] at hc
        clear hkl h1 hb
        go_enter Try.func57, Try.ntmps57
        go_wp2_with (first | (go_at_call 20; (with_reducible refine (hc ?_ ?hq7).mono ?_); (case hq7 => (repeat' (first | with_reducible assumption | (refine bsc2 ?_ ?_ ?_ ?_ _; (· (repeat' (first | with_reducible assumption | (with_reducible exact zeros16 _) | (with_reducible exact sl_new1 _ _ _) | (with_reducible first | apply Sl.upE | apply Sl.upA | apply Sl.upD)))); (· omega); (· (repeat' (first | with_reducible assumption | (with_reducible exact zeros16 _) | (with_reducible exact sl_new1 _ _ _) | (with_reducible first | apply Sl.upE | apply Sl.upA | apply Sl.upD)))); (· omega)) | (with_reducible first | apply Bsc.upE | apply Bsc.upA | apply Bsc.upD)))); rintro e w1 ⟨rfl, hxq⟩; obtain ⟨xq, rfl⟩ := hxq.out; clear hxq) | fail)
        go_ret
        exact ⟨by rw [e.out]; rfl, (by repeat (first | (with_reducible first | exact Ext.refl _ | assumption | apply Ext.alloc | apply Ext.ext | apply Ext.drew | refine Ext.setCell ?_ ?_ _) | (focus (simp [go_sem]; done))))⟩
  · have e := Lib.hid (show checkA ky A = 5 by unfold checkA; rw [if_pos (by omega)])
    have hI := ne32 h1
    clear hkl h1
    go_enter Try.func57, Try.ntmps57
    go_wp2_with fail
    go_ret
    exact ⟨by rw [e.out]; rfl, Ext.refl _⟩

set_option maxRecDepth 100000 in
set_option maxHeartbeats 2000000 in
theorem cloneB_any (base : Nat) (a : Option Addr) (n c : Nat) (A : List (List UInt8)) (w : World) (h : RdB w base a n A) (hbase : base ≤ w.heap.size) (hn : n ≤ 1000000) :
    Calls Try.prog 59 #[.slice a n c] w fun e w' => ∃ a' c', e = .returned (.slice a' n c') ∧ OwnB w' base a' n c' A ∧ Ext w w' := by
  have hnil := fun W (a : Option Addr) (n c : Nat) => Lib.run_eql_slice_nil (P := Try.prog) W 28 25 a n c 0 0 Try.underlying28
  cases a with
  | none =>
    obtain rfl : n = 0 := by
      obtain ⟨_, xs, h2, h3, _⟩ := h
      rcases h3 with h3 | ⟨_, _, h3, _⟩
      · subst h3; simpa using h2.symm
      · cases h3
    obtain rfl : A = [] := List.eq_nil_of_length_eq_zero h.1
    go_enter Try.func59, Try.ntmps59
    go_wp2
    go_ret
    exact ⟨_, _, rfl, OwnB.nil _ _, (by repeat (first | (with_reducible first | exact Ext.refl _ | assumption | apply Ext.alloc | apply Ext.ext | apply Ext.drew | refine Ext.setCell ?_ ?_ _) | (focus (simp [go_sem]; done))))⟩
  | some ad =>
    go_enter Try.func59, Try.ntmps59
    go_wp2_with (at_builtin; refine wpList_append_bs V8 rfl _ _ rfl base _ 0 0 [] rfl _ n c A rfl ((OwnB.empty _).mono0 hbase) (h.ext (Ext.of_alloc _ _)) (by omega) (by simp; omega) ?_; intro sa2 sc2 w2 hO2 hg2 hB2)
    go_ret
    simp only [Nat.zero_add, List.nil_append] at hO2
    refine ⟨_, _, rfl, hO2, ?_⟩
    have hx0 : Ext w (w.alloc (.cells #[] 25)) := (by repeat (first | (with_reducible first | exact Ext.refl _ | assumption | apply Ext.alloc | apply Ext.ext | apply Ext.drew | refine Ext.setCell ?_ ?_ _) | (focus (simp [go_sem]; done))))
    exact Below.grown hx0 hg2 (by simp) (fun g hg => by have e : w.heap.size = g := Option.some.inj hg; omega)

set_option maxRecDepth 100000 in
set_option maxHeartbeats 4000000 in
theorem astream_any (a b c : Option Addr) (ca cb cc n : Nat) (ky t l : List UInt8) (w : World) (hk : Sl w a 32 ky) (hca : 32 ≤ ca) (ht : Sl w b 16 t) (hl : Sl w c n l) (hn : n ≤ 65535) :
    Calls Try.prog 52 #[.slice a 32 ca, .slice b 16 cb, .slice c n cc] w (Read2 n (stream (ky.drop 16) (ctrOf t) l) (.int .i64 0) w) := by
  have htl := ht.len
  obtain ⟨b0, o0, rfl, hb0, _⟩ := hk.at 0 (by omega)
  have hk2 : Sl w (some ⟨b0, o0 + 16, none⟩) 16 (ky.drop 16) := by
    have := hk.drop ca 16 hca
    unfold sAdr at this
    rw [if_neg (by omega)] at this
    simpa [addr_add] using this
  have hC := Lib.hid (show ctrOf t = (t.set 8 (at' t 8 &&& 127)).set 12 (at' t 12 &&& 127) from rfl)
  have h12 : (t.set 8 (at' t 8 &&& 127)).getD 12 0 = at' t 12 := by simp [at', List.getD, List.getElem?_set]
  have q : (16 : Int) ≤ (ca : Int) := by omega
  go_enter Try.func52, Try.ntmps52
  go_wp2_with fail; (with_reducible refine (clone_any _ 16 _ t _ ht (by omega)).mono ?_); rintro e w1 ⟨a1, c1, rfl, hO1, hx1⟩
  obtain ⟨g, rfl, hg, hgb, hcell8, hfr8, _⟩ := hO1.at 8 (by omega)
  obtain ⟨_, e1, _, _, hcell12, hfr12, _⟩ := hO1.at 12 (by omega)
  injection e1 with e1
  injection e1 with e1 _
  subst e1
  have hle := hO1.le
  have hO2 := hO1.put 8 (by omega) (at' t 8 &&& 127)
  have hO3 := hO2.put 12 (by omega) (at' t 12 &&& 127)
  rw [← hC.out] at hO3
  have hx3 : Ext w ((w1.setCell ⟨g, 8, none⟩ (.int .u8 (n8 (at' t 8 &&& 127)))).setCell ⟨g, 12, none⟩ (.int .u8 (n8 (at' t 12 &&& 127)))) := Ext.setCell (Ext.setCell hx1 hg _) hg _
  rw [show t.getD 8 0 = at' t 8 from rfl] at hcell8
  rw [show t.getD 12 0 = at' t 12 from rfl] at hcell12
  clear h12 hO1 hO2
  go_wp2_with fail
  (refine (stream_any _ _ _ _ _ _ n (ky.drop 16) (ctrOf t) l _ (hk2.ext hx3) (by omega) hO3.sl hle.1 (hl.ext hx3) hn).mono ?_; rintro e _ ⟨_, _, rfl, hS, hc, hx⟩)
  go_wp2_with fail
  go_ret2
  exact ⟨_, _, rfl, hS, hc, hx3.trans hx⟩
end Go.Proofs.Ytdmifbfgeeldnaa

/- The walks of layer 16: Ask, Encode. -/
namespace Go.Proofs.Ytdmifbfgeeldnaa
open Go.RowKit Go.Sec Go.Oct Go.Pkt BigFrame

set_option maxRecDepth 100000 in
theorem pask_any (t : UInt64) (w : World) :
    Calls Try.prog 28 #[.int .u64 (n64 t)] w fun e w' => e = .returned (.agg #[.int .i64 0, .int .i64 4, .int .i64 3, .int .i64 0, .int .i64 6, .int .i64 0, .int .u32 0, .int .u32 0, .int .u32 0, .int .u64 0, .int .u64 0, .int .u64 0, .int .u64 (n64 t)]) ∧ Ext w w' := by
  go_enter Try.func28, Try.ntmps28
  go_wp2
  refine bodyPost_ret (results_arr Try.results28 (RH13) _ _ (w.heap.size) (0) ([.int .i64 0, .int .i64 4, .int .i64 3, .int .i64 0, .int .i64 6, .int .i64 0, .int .u32 0, .int .u32 0, .int .u32 0, .int .u64 0, .int .u64 0, .int .u64 0, .int .u64 (n64 t)]) rfl ((Blk.new _ _ _).rd) (rfl)) rfl ?_
  exact ⟨rfl, (by repeat (first | (with_reducible first | exact Ext.refl _ | assumption | apply Ext.alloc | apply Ext.ext | apply Ext.drew | refine Ext.setCell ?_ ?_ _) | (focus (simp [go_sem]; done))))⟩

/-- The first bytes of a header, with so many words. -/
def T3 (h : Hdr) (k : Nat) : List UInt8 := headB h ++ joinL ([putL 4 h.rd.toUInt64, putL 4 h.rp.toUInt64, putL 4 h.id.toUInt64].take k)
def T4 (h : Hdr) (k : Nat) : List UInt8 := headB h ++ (putL 4 h.rd.toUInt64 ++ (putL 4 h.rp.toUInt64 ++ (putL 4 h.id.toUInt64 ++ joinL ([putL 8 h.ref, putL 8 h.org, putL 8 h.rcv, putL 8 h.tx].take k))))
theorem head0 {h : Hdr} (hk : okH h) : bits .or .i64 (bits .or .i64 (wrap64 (h.leap * 64)) (wrap64 (h.ver * 8))) h.mode % 256 = n8 (b8 (h.leap * 64 + h.ver * 8 + h.mode)) := by
  have D : ∀ a ∈ [(0 : Int), 1, 2, 3], ∀ b ∈ [(3 : Int), 4], ∀ c ∈ [(0 : Int), 1, 2, 3, 4, 5, 6, 7], bits .or .i64 (bits .or .i64 (wrap64 (a * 64)) (wrap64 (b * 8))) c % 256 = n8 (b8 (a * 64 + b * 8 + c)) := by decide +kernel
  obtain ⟨h1, h2, h3, _⟩ := hk
  exact D _ (by simp only [List.mem_cons, List.not_mem_nil, or_false]; omega) _ (by simp only [List.mem_cons, List.not_mem_nil, or_false]; omega) _ (by simp only [List.mem_cons, List.not_mem_nil, or_false]; omega)

set_option maxRecDepth 100000 in
set_option maxHeartbeats 4000000 in
theorem pencode_any (h : Hdr) (w : World) :
    Calls Try.prog 48 #[.agg #[.int .i64 h.leap, .int .i64 h.ver, .int .i64 h.mode, .int .i64 h.strat, .int .i64 h.poll, .int .i64 h.prec, .int .u32 (n32 h.rd), .int .u32 (n32 h.rp), .int .u32 (n32 h.id), .int .u64 (n64 h.ref), .int .u64 (n64 h.org), .int .u64 (n64 h.rcv), .int .u64 (n64 h.tx)]] w (Read2 (encH h).1.length (encH h).1 (.int .i64 (encH h).2) w) := by
  have hv := fun W => pvalid_any h W
  have hp4 := fun x W => oput_any x 4 rfl (show (4 : Int) = ((4 : Nat) : Int) from rfl) W (by omega)
  have hp8 := fun x W => oput_any x 8 rfl (show (8 : Int) = ((8 : Nat) : Int) from rfl) W (by omega)
  by_cases hk : okH h
  · have er : encH h = (hdrB h, 0) := if_pos hk
    rw [er] at hv ⊢
    have hl := hdrB_length h
    show Calls _ _ _ _ (Read2 (hdrB h).length _ _ _)
    rw [hl]
    go_enter Try.func48, Try.ntmps48
    go_wp2_with (first
      | (go_at_call 55; refine (hv _).mono ?_; rintro e w1 ⟨rfl, hxq⟩; obtain ⟨xq, rfl⟩ := hxq.out; clear hxq)
      | fail)
    rw [head0 hk, ← n8_b8 h.strat, ← n8_b8 h.poll, ← n8_b8 h.prec]
    refine nameW ?_
    intro W hW
    have hE : Ext w W := by rw [hW]; exact (by repeat (first | (with_reducible first | exact Ext.refl _ | assumption | apply Ext.alloc | apply Ext.ext | apply Ext.drew | refine Ext.setCell ?_ ?_ _) | (focus (simp [go_sem]; done))))
    have hB : Blk W w.heap.size 60 [.int .i64 h.leap, .int .i64 h.ver, .int .i64 h.mode, .int .i64 h.strat, .int .i64 h.poll, .int .i64 h.prec, .int .u32 (n32 h.rd), .int .u32 (n32 h.rp), .int .u32 (n32 h.id), .int .u64 (n64 h.ref), .int .u64 (n64 h.org), .int .u64 (n64 h.rcv), .int .u64 (n64 h.tx)] := by rw [hW]; exact (by repeat (first | assumption | (refine Blk.newAt _ _ _ _ ?_; first | rfl | (simp only [World.size_alloc]; done)) | apply Blk.ext | apply Blk.alloc | (refine Blk.other ?_ ?_ _; rotate_left; (simp <;> omega))))
    have hO := Own.of_blk (w := W) (l := headB h) (base := w.heap.size) (by rw [hW]; exact Blk.new _ _ _) (Below.size (B := w.heap.size) (by repeat (first | (with_reducible first | exact Ext.refl _ | assumption | apply Ext.alloc | apply Ext.ext | apply Ext.drew | refine Ext.setCell ?_ ?_ _) | (focus (simp [go_sem]; done))))) (by rw [show (headB h).length = 4 from rfl]; decide)
    have hO : Own W w.heap.size _ 4 4 (headB h) := hO
    clear hW hv er hk
    go_loopw [5, 7, 43] (fun v5 _ v43 wr => ∃ (k : Nat) (sa : Option Addr) (sc : Nat), k ≤ 3 ∧ v43 = .int .i64 k ∧ v5 = .slice sa (4 + 4 * k) sc ∧ Own wr w.heap.size sa (4 + 4 * k) sc (T3 h k) ∧ Blk wr w.heap.size 60 [.int .i64 h.leap, .int .i64 h.ver, .int .i64 h.mode, .int .i64 h.strat, .int .i64 h.poll, .int .i64 h.prec, .int .u32 (n32 h.rd), .int .u32 (n32 h.rp), .int .u32 (n32 h.id), .int .u64 (n64 h.ref), .int .u64 (n64 h.org), .int .u64 (n64 h.rcv), .int .u64 (n64 h.tx)] ∧ Ext w wr) (fun _ _ v43 _ => 3 - (intOf v43).toNat)
    case atStart => exact ⟨0, _, _, by omega, rfl, rfl, hO, hB, hE⟩
    case round =>
      clear hO hB hE
      obtain ⟨k, sa, sc, hk, rfl, rfl, hO, hB, hE⟩ := hrel
      obtain rfl | rfl | rfl | rfl : k = 0 ∨ k = 1 ∨ k = 2 ∨ k = 3 := by omega
      · have HT := Lib.hid (show T3 h (0 + 1) = T3 h 0 ++ putL 4 h.rd.toUInt64 by simp [T3, joinL])
        simp only [Nat.reduceAdd, Nat.reduceMul, Int.cast_ofNat_Int] at hO ⊢
        go_wp2_with (first
          | (refine wpList_idx_arr 91 58 3 Try.underlying91 (.inl ⟨_, Try.underlying58⟩) (by kernel_rfl) rfl _ _ rfl _ 0 _ rfl rfl (by omega) rfl ?_)
          | fail)
        (with_reducible refine (hp4 _ _).mono ?_)
        rintro e w1 ⟨a1, c1, rfl, hO1, hx1⟩
        go_wp2_with (at_builtin; refine wpList_append_by U rfl _ _ rfl w.heap.size sa _ sc _ rfl a1 4 c1 _ rfl (hO.ext hx1) hO1.sl (by omega) (hE.trans hx1).size ?_; intro sa2 sc2 w2 hO2 hg2 hB2)
        go_roundw
        case rel => exact ⟨0 + 1, sa2, sc2, by omega, by go_num, rfl, by rw [HT.out]; exact hO2, (hB.extB hx1).grown hg2 (own_type (hO.ext hx1).2 (hB.extB hx1) (by decide)), Below.trans (hE.trans hx1) hB2⟩
        case measure => simp [intOf]
      · have HT := Lib.hid (show T3 h (1 + 1) = T3 h 1 ++ putL 4 h.rp.toUInt64 by simp [T3, joinL])
        simp only [Nat.reduceAdd, Nat.reduceMul, Int.cast_ofNat_Int] at hO ⊢
        go_wp2_with (first
          | (refine wpList_idx_arr 91 58 3 Try.underlying91 (.inl ⟨_, Try.underlying58⟩) (by kernel_rfl) rfl _ _ rfl _ 1 _ rfl rfl (by omega) rfl ?_)
          | fail)
        (with_reducible refine (hp4 _ _).mono ?_)
        rintro e w1 ⟨a1, c1, rfl, hO1, hx1⟩
        go_wp2_with (at_builtin; refine wpList_append_by U rfl _ _ rfl w.heap.size sa _ sc _ rfl a1 4 c1 _ rfl (hO.ext hx1) hO1.sl (by omega) (hE.trans hx1).size ?_; intro sa2 sc2 w2 hO2 hg2 hB2)
        go_roundw
        case rel => exact ⟨1 + 1, sa2, sc2, by omega, by go_num, rfl, by rw [HT.out]; exact hO2, (hB.extB hx1).grown hg2 (own_type (hO.ext hx1).2 (hB.extB hx1) (by decide)), Below.trans (hE.trans hx1) hB2⟩
        case measure => simp [intOf]
      · have HT := Lib.hid (show T3 h (2 + 1) = T3 h 2 ++ putL 4 h.id.toUInt64 by simp [T3, joinL])
        simp only [Nat.reduceAdd, Nat.reduceMul, Int.cast_ofNat_Int] at hO ⊢
        go_wp2_with (first
          | (refine wpList_idx_arr 91 58 3 Try.underlying91 (.inl ⟨_, Try.underlying58⟩) (by kernel_rfl) rfl _ _ rfl _ 2 _ rfl rfl (by omega) rfl ?_)
          | fail)
        (with_reducible refine (hp4 _ _).mono ?_)
        rintro e w1 ⟨a1, c1, rfl, hO1, hx1⟩
        go_wp2_with (at_builtin; refine wpList_append_by U rfl _ _ rfl w.heap.size sa _ sc _ rfl a1 4 c1 _ rfl (hO.ext hx1) hO1.sl (by omega) (hE.trans hx1).size ?_; intro sa2 sc2 w2 hO2 hg2 hB2)
        go_roundw
        case rel => exact ⟨2 + 1, sa2, sc2, by omega, by go_num, rfl, by rw [HT.out]; exact hO2, (hB.extB hx1).grown hg2 (own_type (hO.ext hx1).2 (hB.extB hx1) (by decide)), Below.trans (hE.trans hx1) hB2⟩
        case measure => simp [intOf]
      · simp only [Nat.reduceAdd, Nat.reduceMul, Int.cast_ofNat_Int] at hO ⊢
        have hO : Own wr w.heap.size sa 16 sc (T4 h 0) := by have := hO; unfold T4; simpa [T3, joinL] using this
        haveI := hB.blt
        have f9 := hB.cell? 9 rfl
        have f10 := hB.cell? 10 rfl
        have f11 := hB.cell? 11 rfl
        have f12 := hB.cell? 12 rfl
        go_wp2_with fail
        clear f9 f10 f11 f12
        go_loopw [5, 9, 61] (fun v5 _ v61 wr => ∃ (k : Nat) (sa : Option Addr) (sc : Nat), k ≤ 4 ∧ v61 = .int .i64 k ∧ v5 = .slice sa (16 + 8 * k) sc ∧ Own wr w.heap.size sa (16 + 8 * k) sc (T4 h k) ∧ Ext w wr) (fun _ _ v61 _ => 4 - (intOf v61).toNat)
        case atStart => exact ⟨0, _, _, by omega, rfl, rfl, hO, hE⟩
        case round =>
          clear hO hB hE
          obtain ⟨k, sa, sc, hk, rfl, rfl, hO, hE⟩ := hrel
          obtain rfl | rfl | rfl | rfl | rfl : k = 0 ∨ k = 1 ∨ k = 2 ∨ k = 3 ∨ k = 4 := by omega
          · have HT := Lib.hid (show T4 h (0 + 1) = T4 h 0 ++ putL 8 h.ref by simp [T4, joinL])
            simp only [Nat.reduceAdd, Nat.reduceMul, Int.cast_ofNat_Int] at hO ⊢
            go_wp2_with (first
              | (refine wpList_idx_arr 92 45 4 Try.underlying92 (.inl ⟨_, Try.underlying45⟩) (by kernel_rfl) rfl _ _ rfl _ 0 _ rfl rfl (by omega) rfl ?_)
              | fail)
            (with_reducible refine (hp8 _ _).mono ?_)
            rintro e w1 ⟨a1, c1, rfl, hO1, hx1⟩
            go_wp2_with (at_builtin; refine wpList_append_by U rfl _ _ rfl w.heap.size sa _ sc _ rfl a1 8 c1 _ rfl (hO.ext hx1) hO1.sl (by omega) (hE.trans hx1).size ?_; intro sa2 sc2 w2 hO2 hg2 hB2)
            go_roundw
            case rel => exact ⟨0 + 1, sa2, sc2, by omega, by go_num, rfl, by rw [HT.out]; exact hO2, Below.trans (hE.trans hx1) hB2⟩
            case measure => simp [intOf]
          · have HT := Lib.hid (show T4 h (1 + 1) = T4 h 1 ++ putL 8 h.org by simp [T4, joinL])
            simp only [Nat.reduceAdd, Nat.reduceMul, Int.cast_ofNat_Int] at hO ⊢
            go_wp2_with (first
              | (refine wpList_idx_arr 92 45 4 Try.underlying92 (.inl ⟨_, Try.underlying45⟩) (by kernel_rfl) rfl _ _ rfl _ 1 _ rfl rfl (by omega) rfl ?_)
              | fail)
            (with_reducible refine (hp8 _ _).mono ?_)
            rintro e w1 ⟨a1, c1, rfl, hO1, hx1⟩
            go_wp2_with (at_builtin; refine wpList_append_by U rfl _ _ rfl w.heap.size sa _ sc _ rfl a1 8 c1 _ rfl (hO.ext hx1) hO1.sl (by omega) (hE.trans hx1).size ?_; intro sa2 sc2 w2 hO2 hg2 hB2)
            go_roundw
            case rel => exact ⟨1 + 1, sa2, sc2, by omega, by go_num, rfl, by rw [HT.out]; exact hO2, Below.trans (hE.trans hx1) hB2⟩
            case measure => simp [intOf]
          · have HT := Lib.hid (show T4 h (2 + 1) = T4 h 2 ++ putL 8 h.rcv by simp [T4, joinL])
            simp only [Nat.reduceAdd, Nat.reduceMul, Int.cast_ofNat_Int] at hO ⊢
            go_wp2_with (first
              | (refine wpList_idx_arr 92 45 4 Try.underlying92 (.inl ⟨_, Try.underlying45⟩) (by kernel_rfl) rfl _ _ rfl _ 2 _ rfl rfl (by omega) rfl ?_)
              | fail)
            (with_reducible refine (hp8 _ _).mono ?_)
            rintro e w1 ⟨a1, c1, rfl, hO1, hx1⟩
            go_wp2_with (at_builtin; refine wpList_append_by U rfl _ _ rfl w.heap.size sa _ sc _ rfl a1 8 c1 _ rfl (hO.ext hx1) hO1.sl (by omega) (hE.trans hx1).size ?_; intro sa2 sc2 w2 hO2 hg2 hB2)
            go_roundw
            case rel => exact ⟨2 + 1, sa2, sc2, by omega, by go_num, rfl, by rw [HT.out]; exact hO2, Below.trans (hE.trans hx1) hB2⟩
            case measure => simp [intOf]
          · have HT := Lib.hid (show T4 h (3 + 1) = T4 h 3 ++ putL 8 h.tx by simp [T4, joinL])
            simp only [Nat.reduceAdd, Nat.reduceMul, Int.cast_ofNat_Int] at hO ⊢
            go_wp2_with (first
              | (refine wpList_idx_arr 92 45 4 Try.underlying92 (.inl ⟨_, Try.underlying45⟩) (by kernel_rfl) rfl _ _ rfl _ 3 _ rfl rfl (by omega) rfl ?_)
              | fail)
            (with_reducible refine (hp8 _ _).mono ?_)
            rintro e w1 ⟨a1, c1, rfl, hO1, hx1⟩
            go_wp2_with (at_builtin; refine wpList_append_by U rfl _ _ rfl w.heap.size sa _ sc _ rfl a1 8 c1 _ rfl (hO.ext hx1) hO1.sl (by omega) (hE.trans hx1).size ?_; intro sa2 sc2 w2 hO2 hg2 hB2)
            go_roundw
            case rel => exact ⟨3 + 1, sa2, sc2, by omega, by go_num, rfl, by rw [HT.out]; exact hO2, Below.trans (hE.trans hx1) hB2⟩
            case measure => simp [intOf]
          · simp only [Nat.reduceAdd, Nat.reduceMul, Int.cast_ofNat_Int] at hO ⊢
            have hT : T4 h 4 = hdrB h := by simp [T4, hdrB, wordsB, joinL]
            rw [hT] at hO
            go_wp2_with fail
            go_ret2
            exact ⟨_, _, rfl, hO.sl, hO.le.1, hE⟩
  · have er : encH h = ([], 4) := if_neg hk
    rw [er] at hv ⊢
    go_enter Try.func48, Try.ntmps48
    go_wp2_with (first
      | (go_at_call 55; refine (hv _).mono ?_; rintro e w1 ⟨rfl, hxq⟩; obtain ⟨xq, rfl⟩ := hxq.out; clear hxq)
      | fail)
    go_ret2
    exact read2_err _ _ _ (by repeat (first | (with_reducible first | exact Ext.refl _ | assumption | apply Ext.alloc | apply Ext.ext | apply Ext.drew | refine Ext.setCell ?_ ?_ _) | (focus (simp [go_sem]; done))))
end Go.Proofs.Ytdmifbfgeeldnaa

/- The walks of layer 16: next, Decode. -/
namespace Go.Pkt
open Go.Sec Go.RowKit Go.Oct
theorem all8 {p : UInt8 → Prop} (h : ∀ k < 256, p (UInt8.ofNat k)) (x : UInt8) : p x := by
  have := h x.toNat x.toNat_lt
  rwa [UInt8.ofNat_toNat] at this
theorem and7 (x : UInt8) : bits .and .i64 (n8 x) 7 = ((x.toNat % 8 : Nat) : Int) := all8 (p := fun x => bits .and .i64 (n8 x) 7 = ((x.toNat % 8 : Nat) : Int)) (by decide +kernel) x
theorem and7b (x : UInt8) : bits .and .i64 (n8 x / 8) 7 = ((x.toNat / 8 % 8 : Nat) : Int) := all8 (p := fun x => bits .and .i64 (n8 x / 8) 7 = ((x.toNat / 8 % 8 : Nat) : Int)) (by decide +kernel) x
theorem div64 (x : UInt8) : n8 x / 64 = ((x.toNat / 64 : Nat) : Int) := by unfold n8; omega
theorem sgn8 (x : UInt8) : IntKind.i8.wrap (n8 x) = sgn x := all8 (p := fun x => IntKind.i8.wrap (n8 x) = sgn x) (by decide +kernel) x
theorem sgn64 (x : UInt8) : IntKind.i64.wrap (sgn x) = sgn x := all8 (p := fun x => IntKind.i64.wrap (sgn x) = sgn x) (by decide +kernel) x
theorem sgn64' (x : UInt8) : wrap64 (sgn x) = sgn x := all8 (p := fun x => wrap64 (sgn x) = sgn x) (by decide +kernel) x
@[go_sem] theorem wrap32_n64 (x : UInt64) : IntKind.u32.wrap (n64 x) = n32 x.toUInt32 := by
  unfold n32 n64; rw [IntKind.wrap_u32, UInt64.toNat_toUInt32]; omega
@[go_sem] theorem mod32_n64 (x : UInt64) : n64 x % 4294967296 = n32 x.toUInt32 := by
  unfold n32 n64; rw [UInt64.toNat_toUInt32]; omega
theorem getU1 (b : List UInt8) (o : Nat) (h : o < b.length) : n64 (getU b o 1) = n8 (b.getD o 0) := by
  have e : (b.drop o).take 1 = [b.getD o 0] := by
    rw [List.drop_eq_getElem_cons h, List.getD_eq_getElem?_getD, List.getElem?_eq_getElem h]; rfl
  unfold getU
  rw [e]
  unfold getL getS n64 n8
  simp
end Go.Pkt
namespace Go.Proofs.Ytdmifbfgeeldnaa
open Go.RowKit Go.Sec Go.Oct Go.Pkt BigFrame

theorem nameCl {P : Program} {f : FuncId} {vs : Array Value} {w : World} {Q : Ending → World → Prop} (h : ∀ W, W = w → Calls P f vs W Q) : Calls P f vs w Q := h w rfl
/-- What a header reads as, its words so far. -/
def hdC (b : List UInt8) (s p q : Value) (k j : Nat) : List Value := [.int .i64 (rdH b).leap, .int .i64 (rdH b).ver, .int .i64 (rdH b).mode, s, p, q] ++
  (([.int .u32 (n32 (rdH b).rd), .int .u32 (n32 (rdH b).rp), .int .u32 (n32 (rdH b).id)].take k ++ List.replicate (3 - k) (.int .u32 0)) ++ ([.int .u64 (n64 (rdH b).ref), .int .u64 (n64 (rdH b).org), .int .u64 (n64 (rdH b).rcv), .int .u64 (n64 (rdH b).tx)].take j ++ List.replicate (4 - j) (.int .u64 0)))
theorem hdC_no (b : List UInt8) (s p q : Int) (k j : Nat) : ∀ v ∈ hdC b (.int .i64 s) (.int .i64 p) (.int .i64 q) k j, ∀ x, v ≠ .int .u8 x := by
  intro v hv x e
  subst e
  unfold hdC at hv
  simp only [List.mem_append] at hv
  rcases hv with hv | (hv | hv) | (hv | hv)
  · simp at hv
  · have := List.mem_of_mem_take hv; simp at this
  · have := List.eq_of_mem_replicate hv; injection this with h; cases h
  · have := List.mem_of_mem_take hv; simp at this
  · have := List.eq_of_mem_replicate hv; injection this with h; cases h
/-- A header, what stands behind it, and a code. -/
def DecOut (r : (Hdr × List UInt8) × Int) (w : World) (e : Ending) (w' : World) : Prop :=
  ∃ a c, e = .returned (.tuple #[.agg #[.int .i64 r.1.1.leap, .int .i64 r.1.1.ver, .int .i64 r.1.1.mode, .int .i64 r.1.1.strat, .int .i64 r.1.1.poll, .int .i64 r.1.1.prec, .int .u32 (n32 r.1.1.rd), .int .u32 (n32 r.1.1.rp), .int .u32 (n32 r.1.1.id), .int .u64 (n64 r.1.1.ref), .int .u64 (n64 r.1.1.org), .int .u64 (n64 r.1.1.rcv), .int .u64 (n64 r.1.1.tx)], .slice a r.1.2.length c, .int .i64 r.2]) ∧ Sl w' a r.1.2.length r.1.2 ∧ r.1.2.length ≤ c ∧ Ext w w'
theorem DecOut.err (w w' : World) (e : Int) (hx : Ext w w') : DecOut ((zeroH, []), e) w (.returned (.tuple #[.agg #[.int .i64 0, .int .i64 0, .int .i64 0, .int .i64 0, .int .i64 0, .int .i64 0, .int .u32 0, .int .u32 0, .int .u32 0, .int .u64 0, .int .u64 0, .int .u64 0, .int .u64 0], .slice none 0 0, .int .i64 e])) w' :=
  ⟨none, 0, rfl, Sl.nil _ _, Nat.le_refl _, hx⟩

end Go.Proofs.Ytdmifbfgeeldnaa

/- Layer 6 of the program: Tag, Seal, Open. -/
namespace Go.Proofs.Ytdmifbfgeeldnaa
open Go.RowKit Go.Sec Go.Oct Go.Aes BigFrame

theorem ne0 {e : Int} (h : e ≠ 0) : (e != 0) = true := by rw [bne_iff_ne]; exact h

set_option maxRecDepth 100000 in
set_option maxHeartbeats 4000000 in
theorem tag_any (a b c : Option Addr) (n ca m cb k cc : Nat) (ky : List UInt8) (A : List (List UInt8)) (p : List UInt8) (w : World) (hk : Sl w a n ky) (hca : n ≤ ca) (hA : Bsc w b m A) (hm : m ≤ 1000000) (hp : Sl w c k p) (hkc : k ≤ cc) :
    Calls Try.prog 51 #[.slice a n ca, .slice b m cb, .slice c k cc] w (Read2 (tagE ky A p).1.length (tagE ky A p).1 (.int .i64 (tagE ky A p).2) w) := by
  have hc := fun w h1 h2 => check_any a b n ca m cb ky A w h1 h2 hm
  have hpl := hp.len
  by_cases h0 : checkA ky A = 0
  · rw [h0] at hc
    obtain ⟨h32, h16, hmx⟩ := checkA_ok h0
    rw [hk.len] at h32
    rw [hA.len] at h16
    subst h32
    by_cases hl : 65519 < k
    · have e : tagE ky A p = ([], 2) := by unfold tagE; rw [if_neg (by rw [h0]; simp), if_pos (by omega)]
      rw [e]
      have hI : (65519 : Int) < (k : Int) := by omega
      clear e h0 hmx hpl
      go_enter Try.func51, Try.ntmps51
      go_wp2_with (first | (go_at_call 57; (with_reducible refine (hc ?_ ?hq32 ?hq33).mono ?_); (case hq32 => (repeat' (first | with_reducible assumption | (with_reducible exact zeros16 _) | (with_reducible exact sl_new1 _ _ _) | (with_reducible first | apply Sl.upE | apply Sl.upA | apply Sl.upD)))); (case hq33 => (repeat' (first | with_reducible assumption | (refine bsc2 ?_ ?_ ?_ ?_ _; (· (repeat' (first | with_reducible assumption | (with_reducible exact zeros16 _) | (with_reducible exact sl_new1 _ _ _) | (with_reducible first | apply Sl.upE | apply Sl.upA | apply Sl.upD)))); (· omega); (· (repeat' (first | with_reducible assumption | (with_reducible exact zeros16 _) | (with_reducible exact sl_new1 _ _ _) | (with_reducible first | apply Sl.upE | apply Sl.upA | apply Sl.upD)))); (· omega)) | (with_reducible first | apply Bsc.upE | apply Bsc.upA | apply Bsc.upD)))); rintro e w1 ⟨rfl, hxq⟩; obtain ⟨xq, rfl⟩ := hxq.out; clear hxq) | fail)
      go_ret2
      exact read2_err _ _ _ (by repeat (first | (with_reducible first | exact Ext.refl _ | assumption | apply Ext.alloc | apply Ext.ext | apply Ext.drew | refine Ext.setCell ?_ ?_ _) | (focus (simp [go_sem]; done))))
    · rw [tagE_ok h0 (by omega)]
      show Calls _ _ _ _ (Read2 (s2v _ _).length _ _ _)
      rw [s2v_length]
      have hmax : ∀ x ∈ A ++ [p], x.length ≤ 65535 := by
        intro x hx
        rcases List.mem_append.1 hx with h | h
        · have := hmx x h; omega
        · simp only [List.mem_singleton] at h; subst h; omega
      have hI : decide ((65519 : Int) < (k : Int)) = false := by simp; omega
      have q : (16 : Int) ≤ (ca : Int) := by omega
      clear h0 hmx hpl
      go_enter Try.func51, Try.ntmps51
      go_wp2_with (first | (go_at_call 57; (with_reducible refine (hc ?_ ?hq34 ?hq35).mono ?_); (case hq34 => (repeat' (first | with_reducible assumption | (with_reducible exact zeros16 _) | (with_reducible exact sl_new1 _ _ _) | (with_reducible first | apply Sl.upE | apply Sl.upA | apply Sl.upD)))); (case hq35 => (repeat' (first | with_reducible assumption | (refine bsc2 ?_ ?_ ?_ ?_ _; (· (repeat' (first | with_reducible assumption | (with_reducible exact zeros16 _) | (with_reducible exact sl_new1 _ _ _) | (with_reducible first | apply Sl.upE | apply Sl.upA | apply Sl.upD)))); (· omega); (· (repeat' (first | with_reducible assumption | (with_reducible exact zeros16 _) | (with_reducible exact sl_new1 _ _ _) | (with_reducible first | apply Sl.upE | apply Sl.upA | apply Sl.upD)))); (· omega)) | (with_reducible first | apply Bsc.upE | apply Bsc.upA | apply Bsc.upD)))); rintro e w1 ⟨rfl, hxq⟩; obtain ⟨xq, rfl⟩ := hxq.out; clear hxq) | fail)
      have hxW : Ext w (w.ext xq) := (by repeat (first | (with_reducible first | exact Ext.refl _ | assumption | apply Ext.alloc | apply Ext.ext | apply Ext.drew | refine Ext.setCell ?_ ?_ _) | (focus (simp [go_sem]; done))))
      generalize w.ext xq = W at *
      have hkW := (hk.ext hxW).take 16 (by omega)
      have hRB := (hA.ext hxW).rdB
      have hpW := hp.ext hxW
      have hSE : ∀ w', Ext (W) w' → (Ext (W)) w' := (fun _ h => h); have hExt0 : Ext (W) (W).drew := Ext.drew (Ext.refl _); refine wp_region_held_drew (S := Ext (W)) (by kernel_rfl) (hSE _ hExt0) (fun hHeld => ?_)
      refine wpAnyH_take (i := 0) (v := ?v19) rfl (by kernel_rfl) (by kernel_rfl) (by kernel_rfl) (fun _ _ _ h => h) (Or.inl ⟨by rfl, ?hy19⟩) hHeld ?_; (case hy19 => (intro w' hx; simp [go_sem, execOp, *]; (try simp (disch := omega) only [Go.IntWalk.i64_in, Go.IntWalk.rem_in, Go.IntWalk.wrap64_in]); rfl)); (try simp only [List.getElem_toArray, List.getElem_cons_succ, List.getElem_cons_zero, Act.put, List.setIfInBounds_toArray, List.set_cons_succ, List.set_cons_zero])
      refine wpAnyH_take (i := 1) (v := ?v20) rfl (by kernel_rfl) (by kernel_rfl) (by kernel_rfl) (fun _ _ _ h => h) (Or.inl ⟨by rfl, ?hy20⟩) hHeld ?_; (case hy20 => (intro w' hx; simp [go_sem, execOp, *]; (try simp (disch := omega) only [Go.IntWalk.i64_in, Go.IntWalk.rem_in, Go.IntWalk.wrap64_in]); rfl)); (try simp only [List.getElem_toArray, List.getElem_cons_succ, List.getElem_cons_zero, Act.put, List.setIfInBounds_toArray, List.set_cons_succ, List.set_cons_zero])
      refine wpAnyH_take (i := 2) (v := ?v21) rfl (by kernel_rfl) (by kernel_rfl) (by kernel_rfl) (fun _ _ _ h => h) (Or.inl ⟨by rfl, ?hy21⟩) hHeld ?_; (case hy21 => (intro w' hx; simp [go_sem, execOp, *]; (try simp (disch := omega) only [Go.IntWalk.i64_in, Go.IntWalk.rem_in, Go.IntWalk.wrap64_in]); rfl)); (try simp only [List.getElem_toArray, List.getElem_cons_succ, List.getElem_cons_zero, Act.put, List.setIfInBounds_toArray, List.set_cons_succ, List.set_cons_zero])
      refine wpAnyH_take (i := 4) (v := ?v22) rfl (by kernel_rfl) (by kernel_rfl) (by kernel_rfl) (fun _ _ _ h => h) (Or.inl ⟨by rfl, ?hy22⟩) hHeld ?_; (case hy22 => (intro w' hx; simp [go_sem, execOp, *]; (try simp (disch := omega) only [Go.IntWalk.i64_in, Go.IntWalk.rem_in, Go.IntWalk.wrap64_in]); rfl)); (try simp only [List.getElem_toArray, List.getElem_cons_succ, List.getElem_cons_zero, Act.put, List.setIfInBounds_toArray, List.set_cons_succ, List.set_cons_zero])
      refine R5.any_late2 6 8 [[], [0], [], [2], [], [4], [2, 3, 4, 5], [0, 1, 2, 3, 4, 5, 6], [0, 1, 2, 3, 4, 5, 6, 7], [0, 1, 2, 3, 4, 5, 6, 7], [0, 1, 2, 3, 4, 5, 6, 7, 8, 9], [0, 1, 2, 3, 4, 5, 6, 7, 8, 9, 10]] [0, 1, 2, 4] #[true, true, true, true, true, true, true, true, false, false, false, false] 4 hExt0 hSE (by kernel_rfl) (by kernel_rfl) (by kernel_rfl) (by kernel_rfl) (by kernel_rfl) (by kernel_rfl) ?_; simp only [List.take_succ_cons, List.take_zero, List.drop_succ_cons, List.drop_zero, List.take_nil, List.drop_nil, Nat.reduceSub]
      refine R5.VD_taken rfl ?_
      refine R5.VD_taken rfl ?_
      refine R5.VD_taken rfl ?_
      (refine R5.VD_vag rfl (fun p => .slice (p 0).1 m (p 0).2) (fun p w'' => OwnB w'' W.heap.size (p 0).1 m (p 0).2 A) (fun p w w' h hx => h.ext hx) (fun us w' hx hf => ⟨rfl, ?_⟩) ?_; (unfold gives; simp [go_sem, execOp]; exact R5.vag_rows (cloneB_any W.heap.size _ _ _ _ _ (hRB.ext hx) hx.size (by omega))))
      refine R5.VD_taken rfl ?_
      (refine R5.VD_vag rfl (fun p => .slice (p 0).1 1 1) (fun p w'' => Rd w'' (p 0).1 [.slice c k cc]) (fun p w w' h hx => h.ext hx) (fun us w' hx hf => ⟨rfl, ?_⟩) ?_; (unfold gives; simp [go_sem, execOp]; exact ⟨fun _ => (some ⟨w'.heap.size, 0, none⟩, 0), rfl, Ext.of_alloc _ _, (Blk.new _ _ _).rd⟩))
      (refine R5.VD_nil ?_; intro us w' hx hf; obtain ⟨x, rfl⟩ := hx.out; (try simp only [Act.put, List.setIfInBounds_toArray, List.set_cons_succ, List.set_cons_zero, wpList_none]); (try simp only [List.mem_cons, List.not_mem_nil, or_false, forall_eq_or_imp, forall_eq, List.nil_append, List.cons_append, List.mem_append, false_or, true_and, and_true] at hf); (try simp only [Nat.reduceAdd, Nat.zero_add] at hf); (try simp only [Nat.reduceAdd, Nat.zero_add]))
      obtain ⟨hO1, hR2⟩ := hf
      (refine R5.chain_append_bs hSE V8 rfl rfl _ _ rfl (W.heap.size) _ m _ (A) rfl _ 1 1 ([p]) rfl (hO1) (RdB.one hR2 (hpW.ext hx) hkc (hpW.inB _)) (by omega) (hx.size) (Nat.le_refl _) (hx) ?_; intro sa2 sc2 w2 hOa hg2 hB2 hx2)
      have hBs := hOa.bsc
      have hle := hOa.le
      have hk2 := hkW.ext hx2
      (refine R5.chain_cons rfl rfl ?_; unfold gives; simp [go_sem, execOp]; (with_reducible refine (vector_any ?_ ?_ ?_ ?_ ?_ (ky.take 16) (A ++ [p]) ?_ ?hq27 ?hq28 ?hq29 ?hq30 ?hq31 hmax).mono ?_); (case hq27 => (repeat' (first | with_reducible assumption | (with_reducible exact zeros16 _) | (with_reducible exact sl_new1 _ _ _) | (with_reducible first | apply Sl.upE | apply Sl.upA | apply Sl.upD)))); (case hq29 => (repeat' (first | with_reducible assumption | (refine bsc2 ?_ ?_ ?_ ?_ _; (· (repeat' (first | with_reducible assumption | (with_reducible exact zeros16 _) | (with_reducible exact sl_new1 _ _ _) | (with_reducible first | apply Sl.upE | apply Sl.upA | apply Sl.upD)))); (· omega); (· (repeat' (first | with_reducible assumption | (with_reducible exact zeros16 _) | (with_reducible exact sl_new1 _ _ _) | (with_reducible first | apply Sl.upE | apply Sl.upA | apply Sl.upD)))); (· omega)) | (with_reducible first | apply Bsc.upE | apply Bsc.upA | apply Bsc.upD)))); (case hq28 => omega); (case hq30 => omega); (case hq31 => omega); rintro e _ ⟨_, _, rfl, hS, hc, hx⟩; obtain ⟨_, rfl⟩ := hx.out; clear hx; refine ⟨_, rfl, hSE _ (by repeat (first | (with_reducible first | exact Ext.refl _ | assumption | apply Ext.alloc | apply Ext.ext | apply Ext.drew | refine Ext.setCell ?_ ?_ _) | (focus (simp [go_sem]; done)))), ?_⟩; (try simp only [List.getElem_toArray, List.getElem_cons_succ, List.getElem_cons_zero, Act.put, List.setIfInBounds_toArray, List.set_cons_succ, List.set_cons_zero]))
      (refine R5.chain_nil ?_)
      refine wpAnyH_take (i := 8) (v := ?v23) rfl (by kernel_rfl) (by kernel_rfl) (by kernel_rfl) (fun _ _ _ h => h) (Or.inl ⟨by rfl, ?hy23⟩) (hSE _ (by repeat (first | (with_reducible first | exact Ext.refl _ | assumption | apply Ext.alloc | apply Ext.ext | apply Ext.drew | refine Ext.setCell ?_ ?_ _) | (focus (simp [go_sem]; done))))) ?_; (case hy23 => (intro w' hx; simp [go_sem, execOp, *]; (try simp (disch := omega) only [Go.IntWalk.i64_in, Go.IntWalk.rem_in, Go.IntWalk.wrap64_in]); rfl)); (try simp only [List.getElem_toArray, List.getElem_cons_succ, List.getElem_cons_zero, Act.put, List.setIfInBounds_toArray, List.set_cons_succ, List.set_cons_zero])
      refine wpAnyH_take (i := 9) (v := ?v24) rfl (by kernel_rfl) (by kernel_rfl) (by kernel_rfl) (fun _ _ _ h => h) (Or.inl ⟨by rfl, ?hy24⟩) (hSE _ (by repeat (first | (with_reducible first | exact Ext.refl _ | assumption | apply Ext.alloc | apply Ext.ext | apply Ext.drew | refine Ext.setCell ?_ ?_ _) | (focus (simp [go_sem]; done))))) ?_; (case hy24 => (intro w' hx; simp [go_sem, execOp, *]; (try simp (disch := omega) only [Go.IntWalk.i64_in, Go.IntWalk.rem_in, Go.IntWalk.wrap64_in]); rfl)); (try simp only [List.getElem_toArray, List.getElem_cons_succ, List.getElem_cons_zero, Act.put, List.setIfInBounds_toArray, List.set_cons_succ, List.set_cons_zero])
      refine wpAnyH_take (i := 10) (v := ?v25) rfl (by kernel_rfl) (by kernel_rfl) (by kernel_rfl) (fun _ _ _ h => h) (Or.inl ⟨by rfl, ?hy25⟩) (hSE _ (by repeat (first | (with_reducible first | exact Ext.refl _ | assumption | apply Ext.alloc | apply Ext.ext | apply Ext.drew | refine Ext.setCell ?_ ?_ _) | (focus (simp [go_sem]; done))))) ?_; (case hy25 => (intro w' hx; simp [go_sem, execOp, *]; (try simp (disch := omega) only [Go.IntWalk.i64_in, Go.IntWalk.rem_in, Go.IntWalk.wrap64_in]); rfl)); (try simp only [List.getElem_toArray, List.getElem_cons_succ, List.getElem_cons_zero, Act.put, List.setIfInBounds_toArray, List.set_cons_succ, List.set_cons_zero])
      refine wpAnyH_take (i := 11) (v := ?v26) rfl (by kernel_rfl) (by kernel_rfl) (by kernel_rfl) (fun _ _ _ h => h) (Or.inl ⟨by rfl, ?hy26⟩) (hSE _ (by repeat (first | (with_reducible first | exact Ext.refl _ | assumption | apply Ext.alloc | apply Ext.ext | apply Ext.drew | refine Ext.setCell ?_ ?_ _) | (focus (simp [go_sem]; done))))) ?_; (case hy26 => (intro w' hx; simp [go_sem, execOp, *]; (try simp (disch := omega) only [Go.IntWalk.i64_in, Go.IntWalk.rem_in, Go.IntWalk.wrap64_in]); rfl)); (try simp only [List.getElem_toArray, List.getElem_cons_succ, List.getElem_cons_zero, Act.put, List.setIfInBounds_toArray, List.set_cons_succ, List.set_cons_zero])
      refine wpAnyH_done (by kernel_rfl) ?_ _
      go_wp2
      go_ret2
      exact ⟨_, _, rfl, hS, hc, hxW.trans (by repeat (first | (with_reducible first | exact Ext.refl _ | assumption | apply Ext.alloc | apply Ext.ext | apply Ext.drew | refine Ext.setCell ?_ ?_ _) | (focus (simp [go_sem]; done))))⟩
  · have e : tagE ky A p = ([], checkA ky A) := by unfold tagE; rw [if_pos h0]
    rw [e]
    have hI := ne0 h0
    generalize checkA ky A = v at *
    clear e h0
    go_enter Try.func51, Try.ntmps51
    go_wp2_with (first | (go_at_call 57; (with_reducible refine (hc ?_ ?hq36 ?hq37).mono ?_); (case hq36 => (repeat' (first | with_reducible assumption | (with_reducible exact zeros16 _) | (with_reducible exact sl_new1 _ _ _) | (with_reducible first | apply Sl.upE | apply Sl.upA | apply Sl.upD)))); (case hq37 => (repeat' (first | with_reducible assumption | (refine bsc2 ?_ ?_ ?_ ?_ _; (· (repeat' (first | with_reducible assumption | (with_reducible exact zeros16 _) | (with_reducible exact sl_new1 _ _ _) | (with_reducible first | apply Sl.upE | apply Sl.upA | apply Sl.upD)))); (· omega); (· (repeat' (first | with_reducible assumption | (with_reducible exact zeros16 _) | (with_reducible exact sl_new1 _ _ _) | (with_reducible first | apply Sl.upE | apply Sl.upA | apply Sl.upD)))); (· omega)) | (with_reducible first | apply Bsc.upE | apply Bsc.upA | apply Bsc.upD)))); rintro e w1 ⟨rfl, hxq⟩; obtain ⟨xq, rfl⟩ := hxq.out; clear hxq) | fail)
    go_ret2
    exact read2_err _ _ _ (by repeat (first | (with_reducible first | exact Ext.refl _ | assumption | apply Ext.alloc | apply Ext.ext | apply Ext.drew | refine Ext.setCell ?_ ?_ _) | (focus (simp [go_sem]; done))))

set_option maxRecDepth 100000 in
set_option maxHeartbeats 4000000 in
theorem seal_any (a b c : Option Addr) (n ca m cb k cc : Nat) (ky : List UInt8) (A : List (List UInt8)) (p : List UInt8) (w : World) (hk : Sl w a n ky) (hca : n ≤ ca) (hA : Bsc w b m A) (hm : m ≤ 1000000) (hp : Sl w c k p) (hkc : k ≤ cc) :
    Calls Try.prog 43 #[.slice a n ca, .slice b m cb, .slice c k cc] w (Read2 (sealE ky A p).1.length (sealE ky A p).1 (.int .i64 (sealE ky A p).2) w) := by
  have ht := fun w h1 h3 h5 => tag_any a b c n ca m cb k cc ky A p w h1 hca h3 hm h5 hkc
  by_cases h0 : (tagE ky A p).2 = 0
  · obtain ⟨h16, hck, hpl⟩ := tagE_len h0
    obtain ⟨h32, _, _⟩ := checkA_ok hck
    rw [hk.len] at h32
    rw [hp.len] at hpl
    subst h32
    have e := Lib.hid (show sealE ky A p = ((tagE ky A p).1 ++ stream (ky.drop 16) (ctrOf (tagE ky A p).1) p, 0) by unfold sealE; rw [if_neg (by simpa using h0)])
    rw [h0, h16] at ht
    have hsl := stream_length (ky.drop 16) (ctrOf (tagE ky A p).1) p
    rw [hp.len] at hsl
    have hst := fun a1 c1 w h1 h2 h3 h4 => astream_any a a1 c ca c1 cc k ky (tagE ky A p).1 p w h1 h2 h3 h4 (by omega)
    generalize stream (ky.drop 16) (ctrOf (tagE ky A p).1) p = st at *
    generalize (tagE ky A p).1 = tg at *
    rw [e.out]
    have hll : (tg ++ st).length = 16 + k := by rw [List.length_append, h16, hsl]
    show Calls _ _ _ _ (Read2 (tg ++ st).length _ _ _)
    rw [hll]
    clear h0 hck
    have hj : joinL [tg, st] = tg ++ st := by simp [joinL]
    have hjl : (joinL [tg, st]).length = 16 + k := by rw [hj, hll]
    have HJ := Lib.hid hj
    clear hj
    go_enter Try.func43, Try.ntmps43
    go_wp2_with (first
      | (go_at_call 51; (with_reducible refine (ht ?_ ?hq38 ?hq39 ?hq40).mono ?_); (case hq38 => (repeat' (first | with_reducible assumption | (with_reducible exact zeros16 _) | (with_reducible exact sl_new1 _ _ _) | (with_reducible first | apply Sl.upE | apply Sl.upA | apply Sl.upD)))); (case hq39 => (repeat' (first | with_reducible assumption | (refine bsc2 ?_ ?_ ?_ ?_ _; (· (repeat' (first | with_reducible assumption | (with_reducible exact zeros16 _) | (with_reducible exact sl_new1 _ _ _) | (with_reducible first | apply Sl.upE | apply Sl.upA | apply Sl.upD)))); (· omega); (· (repeat' (first | with_reducible assumption | (with_reducible exact zeros16 _) | (with_reducible exact sl_new1 _ _ _) | (with_reducible first | apply Sl.upE | apply Sl.upA | apply Sl.upD)))); (· omega)) | (with_reducible first | apply Bsc.upE | apply Bsc.upA | apply Bsc.upD)))); (case hq40 => (repeat' (first | with_reducible assumption | (with_reducible exact zeros16 _) | (with_reducible exact sl_new1 _ _ _) | (with_reducible first | apply Sl.upE | apply Sl.upA | apply Sl.upD)))); rintro e _ ⟨_, _, rfl, hS, hc, hx⟩; obtain ⟨_, rfl⟩ := hx.out; clear hx)
      | (go_at_call 52; (with_reducible refine (hst ?_ ?_ ?_ ?hq41 ?hq42 ?hq43 ?hq44).mono ?_); (case hq41 => (repeat' (first | with_reducible assumption | (with_reducible exact zeros16 _) | (with_reducible exact sl_new1 _ _ _) | (with_reducible first | apply Sl.upE | apply Sl.upA | apply Sl.upD)))); (case hq43 => (repeat' (first | with_reducible assumption | (with_reducible exact zeros16 _) | (with_reducible exact sl_new1 _ _ _) | (with_reducible first | apply Sl.upE | apply Sl.upA | apply Sl.upD)))); (case hq44 => (repeat' (first | with_reducible assumption | (with_reducible exact zeros16 _) | (with_reducible exact sl_new1 _ _ _) | (with_reducible first | apply Sl.upE | apply Sl.upA | apply Sl.upD)))); (case hq42 => omega); rintro e _ ⟨_, _, rfl, hS, hc, hx⟩; obtain ⟨_, rfl⟩ := hx.out; clear hx)
      | fail)
    (with_reducible refine (ojoin_any _ _ _ [tg, st] _ (bss2 ?h1 ?h2 _) (by omega) (16 + k) hjl (by omega)).mono ?_)
    case h1 => exact (by (repeat' (first | with_reducible assumption | (with_reducible exact zeros16 _) | (with_reducible exact sl_new1 _ _ _) | (with_reducible first | apply Sl.upE | apply Sl.upA | apply Sl.upD))))
    case h2 => exact (by (repeat' (first | with_reducible assumption | (with_reducible exact zeros16 _) | (with_reducible exact sl_new1 _ _ _) | (with_reducible first | apply Sl.upE | apply Sl.upA | apply Sl.upD))))
    rintro e _ ⟨_, _, rfl, hO, hx⟩
    obtain ⟨_, rfl⟩ := hx.out
    clear hx
    go_wp2
    rw [HJ.out] at hO
    go_ret2
    exact ⟨_, _, rfl, hO.sl, hO.le.1, (by repeat (first | (with_reducible first | exact Ext.refl _ | assumption | apply Ext.alloc | apply Ext.ext | apply Ext.drew | refine Ext.setCell ?_ ?_ _) | (focus (simp [go_sem]; done))))⟩
  · have e : sealE ky A p = ([], (tagE ky A p).2) := by unfold sealE; rw [if_pos h0]
    rw [e]
    have hI := ne0 h0
    generalize (tagE ky A p).2 = v at *
    generalize (tagE ky A p).1 = tg at *
    clear e h0
    go_enter Try.func43, Try.ntmps43
    go_wp2_with (first | (go_at_call 51; (with_reducible refine (ht ?_ ?hq45 ?hq46 ?hq47).mono ?_); (case hq45 => (repeat' (first | with_reducible assumption | (with_reducible exact zeros16 _) | (with_reducible exact sl_new1 _ _ _) | (with_reducible first | apply Sl.upE | apply Sl.upA | apply Sl.upD)))); (case hq46 => (repeat' (first | with_reducible assumption | (refine bsc2 ?_ ?_ ?_ ?_ _; (· (repeat' (first | with_reducible assumption | (with_reducible exact zeros16 _) | (with_reducible exact sl_new1 _ _ _) | (with_reducible first | apply Sl.upE | apply Sl.upA | apply Sl.upD)))); (· omega); (· (repeat' (first | with_reducible assumption | (with_reducible exact zeros16 _) | (with_reducible exact sl_new1 _ _ _) | (with_reducible first | apply Sl.upE | apply Sl.upA | apply Sl.upD)))); (· omega)) | (with_reducible first | apply Bsc.upE | apply Bsc.upA | apply Bsc.upD)))); (case hq47 => (repeat' (first | with_reducible assumption | (with_reducible exact zeros16 _) | (with_reducible exact sl_new1 _ _ _) | (with_reducible first | apply Sl.upE | apply Sl.upA | apply Sl.upD)))); rintro e _ ⟨_, _, rfl, hS, hc, hx⟩; obtain ⟨_, rfl⟩ := hx.out; clear hx) | fail)
    go_ret2
    exact read2_err _ _ _ (by repeat (first | (with_reducible first | exact Ext.refl _ | assumption | apply Ext.alloc | apply Ext.ext | apply Ext.drew | refine Ext.setCell ?_ ?_ _) | (focus (simp [go_sem]; done))))

end Go.Proofs.Ytdmifbfgeeldnaa
