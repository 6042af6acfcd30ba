/- Lemmas of this claim, several texts joined. -/
import Derived.Test.YtbfgeokngekdmaaGreatZ5
import Derived.Test.YtbfgeokngekdmaaGreatZ10
import Derived.Test.YtbfgeokngekdmaaGreatZ11
import Derived.Test.YtbfgeokngekdmaaGreatZ15
import Derived.Test.YtbfgeokngekdmaaGreatZ17
import Derived.Test.YtbfgeokngekdmaaGreatZ19
import Derived.Test.YtbfgeokngekdmaaGreatZ23
import Derived.Test.YtbfgeokngekdmaaGreatZ24
set_option linter.unusedVariables false
set_option linter.unusedSimpArgs false
/- Layer 4: the stream of the document. -/
namespace Go.Aes
theorem streamK_range (ks ctr l : List UInt8) : streamK ks ctr l = (List.range l.length).map (strF ks ctr l) := by
  refine ext_at (by rw [streamK_length]; simp) fun i hi => ?_
  have hi' : i < l.length := by simpa using hi
  rw [streamK_at _ _ _ _ hi', at_get _ _ hi]
  simp
theorem strF_at (ks ctr l : List UInt8) (q k : Nat) (hk : k < 16) : strF ks ctr l (16 * q + k) = at' l (16 * q + k) ^^^ at' (enc ks (nxtN q ctr)) k := by
  unfold strF
  rw [show (16 * q + k) / 16 = q by omega, show (16 * q + k) % 16 = k by omega]
theorem range_snoc {α : Type} (f : Nat → α) (m : Nat) : (List.range m).map f ++ [f m] = (List.range (m + 1)).map f := by
  rw [List.range_succ, List.map_append]; rfl
end Go.Aes
namespace Go.Sec
open Go.RowKit Go.Aes
theorem Sl.atq {w : World} {a : Option Addr} {n : Nat} {l : List UInt8} (h : Sl w a n l) (k : Nat) (hk : k < n) :
    ∃ b off, a = some ⟨b, off, none⟩ ∧ BlkLt b w ∧ w.cell? ⟨b, off + k, none⟩ = some (.int .u8 (n8 (at' l k))) := by
  obtain ⟨b, off, h1, h2, h3⟩ := h.at k hk
  exact ⟨b, off, h1, h2, by rw [at_get l k (by have := h.len; omega)]; exact h3⟩
end Go.Sec
namespace Go.Proofs.YtbfgeokngekdmaaGreat
open Go.RowKit Go.Sec Go.Oct Go.Aes BigFrame

set_option maxRecDepth 100000 in
set_option maxHeartbeats 4000000 in
theorem rstream_any (a b c : Option Addr) (ca cb cc n : Nat) (ky ctr l : List UInt8) (w : World) (hk : Sl w a 16 ky) (hcv : Sl w b 16 ctr) (hcb : 16 ≤ cb) (hl : Sl w c n l) (hn : n ≤ 65535) :
    Calls Tryz.prog 48 #[.slice a 16 ca, .slice b 16 cb, .slice c n cc] w (Read2 n (stream ky ctr l) (.int .i64 0) w) := by
  have hks : (expand ky).length = 176 := words_length ky 40 hk.len
  have hfin := Lib.hid (show stream ky ctr l = (List.range n).map (strF (expand ky) ctr l) by unfold stream; rw [streamK_range, hl.len])
  have hes := Lib.hid (fun q k => strF_at (expand ky) ctr l q k)
  have hp := fun w h => prepare_any a ca ky w h
  have hpl := pre_length (expand ky) (by omega)
  have hen := fun a c l w h hc => renc_any a c (expand ky) l hks w h hc
  generalize pre (expand ky) = pk at *
  generalize expand ky = ks at *
  generalize strF ks ctr l = f at *
  have hnI : ¬ (65535 : Int) < (n : Int) := by omega
  go_enter Tryz.func48, Tryz.ntmps48
  go_wp2_with (first
    | (go_at_call 64; (with_reducible refine (hp ?_ ?hq29).mono ?_); (case hq29 => (repeat' (first | with_reducible assumption | (with_reducible exact zeros16 _) | (with_reducible exact sl_new1 _ _ _) | (with_reducible first | apply Sl.upE | apply Sl.upA | apply Sl.upD)))); rintro e w1 ⟨rfl, hxq⟩; obtain ⟨xq, rfl⟩ := hxq.out; clear hxq)
    | ((refine wpList_alloc_store (R84) rfl rfl _ _ rfl rfl rfl rfl (by simp [Act.put]) (pk.map u8v) rfl (by simp) ((by simpa using hpl)) (one_u8 _) ?_; intro x2 hBx _); have hRx := hBx.rd; clear hBx)
    | fail)
  obtain ⟨gm, hgm⟩ : ∃ gm, Hid (gm = (w.ext xq).heap.size) := ⟨_, Lib.hid rfl⟩
  rw [← hgm.out] at hRx ⊢
  have hxx : Ext w ((w.ext xq).ext x2) := (by repeat (first | (with_reducible first | exact Ext.refl _ | assumption | apply Ext.alloc | apply Ext.ext | apply Ext.drew | refine Ext.setCell ?_ ?_ _) | (focus (simp [go_sem]; done))))
  have hgw : w.heap.size ≤ gm := by rw [hgm.out]; exact (Ext.of_ext w xq).size
  have hgl : gm + 1 ≤ ((w.ext xq).ext x2).heap.size := by
    have := hRx.lt (by simp; omega)
    omega
  go_loopw [1, 9, 10] (fun v1 v9 v10 wr => ∃ (q i m : Nat) (a1 a9 : Option Addr) (c1 c9 : Nat), v10 = .int .i64 i ∧ Hid (i = 16 * q) ∧ v1 = .slice a1 16 c1 ∧ 16 ≤ c1 ∧ Sl wr a1 16 (nxtN q ctr) ∧ v9 = .slice a9 m c9 ∧ m ≤ n ∧ m ≤ i ∧ (n ≤ m ∨ i ≤ m) ∧ Sec.Own wr (gm + 1) a9 m c9 ((List.range m).map f) ∧ Off a1 (Value.slice a9 m c9).ownBlock ∧ Rd wr (some ⟨gm, 0, none⟩) (pk.map u8v) ∧ Ext w wr) (fun _ _ v10 _ => n - (intOf v10).toNat)
  case atStart =>
    refine ⟨0, 0, 0, _, _, _, _, rfl, Lib.hid rfl, rfl, hcb, (show Sl _ b 16 ctr from (by (repeat' (first | with_reducible assumption | (with_reducible exact zeros16 _) | (with_reducible exact sl_new1 _ _ _) | (with_reducible first | apply Sl.upE | apply Sl.upA | apply Sl.upD))))), rfl, by omega, by omega, by omega, (own_empty _).mono hgl, ?_, (by (repeat' (first | with_reducible assumption | (with_reducible first | apply Rd.upE | apply Rd.upA | apply Rd.upD)))), (by repeat (first | (with_reducible first | exact Ext.refl _ | assumption | apply Ext.alloc | apply Ext.ext | apply Ext.drew | refine Ext.setCell ?_ ?_ _) | (focus (simp [go_sem]; done))))⟩
    exact .lt (N := w.heap.size) (hcv.lt (by omega)) (fun g e => by have e : ((w.ext xq).ext x2).heap.size = g := Option.some.inj e; omega)
  case round =>
    clear hRx hgl hxx
    obtain ⟨q, i, m, a1, a9, c1, c9, rfl, hiq, rfl, hc1, hC, rfl, hmn, hmi, hor, hO, hof, hR, hx⟩ := hrel
    have hle0 := hO.le
    by_cases hlt : i < n
    · have hltI : (i : Int) < (n : Int) := by omega
      obtain rfl : i = m := by omega
      go_wp2_with (first
        | (refine wpList_load_arr (R84) rfl _ rfl (gm) (0) rfl (pk.map u8v) (hR) ((by simpa using hpl)) ?_)
        | fail)
      refine (hen _ _ _ _ hC hc1).mono ?_; rintro e W2 ⟨a2, c2, rfl, hO2, hx2⟩
      have hes1 := Lib.hid (fun k => hes.out q k)
      have hek := hO2.sl
      have hof2 : Off a2 (Value.slice a9 i c9).ownBlock := .gt (hO2.ge (by omega)) (fun g e => (own_lt hO.2 g e).2)
      generalize enc ks (nxtN q ctr) = ek at *
      have hekl := hek.len
      have hxw2 := hx.trans hx2
      have hC2 := hC.ext hx2
      have hR2 := hR.ext hx2
      have hO2' := hO.ext hx2
      clear hO2 hx hx2 hC hR hO
      go_wp2_with fail
      go_loopw [9, 12] (fun v9 v12 wr => ∃ (k m : Nat) (a9 : Option Addr) (c9 : Nat), k ≤ 16 ∧ v12 = .int .i64 k ∧ m ≤ n ∧ Hid (m = i + k) ∧ v9 = .slice a9 m c9 ∧ Sec.Own wr (gm + 1) a9 m c9 ((List.range m).map f) ∧ Off a1 (Value.slice a9 m c9).ownBlock ∧ Off a2 (Value.slice a9 m c9).ownBlock ∧ Sl wr a1 16 (nxtN q ctr) ∧ Sl wr a2 16 ek ∧ Rd wr (some ⟨gm, 0, none⟩) (pk.map u8v) ∧ Ext w wr) (fun _ v12 _ => 16 - (intOf v12).toNat)
      case atStart => exact ⟨0, i, _, _, by omega, rfl, by omega, Lib.hid rfl, rfl, hO2', hof, hof2, hC2, hek, hR2, hxw2⟩
      case round =>
        clear hO2' hC2 hek hR2 hxw2 hof hof2
        obtain ⟨k, m, a9, c9, hk, rfl, hmn, hm, rfl, hOw, hof1, hof2, hC, hE, hR, hx⟩ := hrel
        have hle := hOw.le
        by_cases hkn : k < 16 ∧ i + k < n
        · obtain ⟨hk16, hin⟩ := hkn
          have k0 : (k : Int) < 16 := by omega
          have k1 : (i : Int) + (k : Int) < (n : Int) := by omega
          have k2 : (0 : Int) ≤ (i : Int) + (k : Int) := by omega
          have k3 : (0 : Int) ≤ (k : Int) := by omega
          have k4 : ((i : Int) + (k : Int)).toNat = i + k := by omega
          obtain ⟨b1, o1, rfl, hb1, hc1'⟩ := (hl.ext hx).atq (i + k) hin
          obtain ⟨b2, o2, rfl, hb2, hc2'⟩ := hE.atq k hk16
          have hv := Lib.hid (show f m = at' l (i + k) ^^^ at' ek k by rw [hm.out, hiq.out]; exact hes1.out k hk16)
          generalize at' l (i + k) = y1 at *
          generalize at' ek k = y2 at *
          have hxw := hx
          go_wp2
          refine wp_region_vague 13 [[], [], [], [], [2, 3], [1, 2, 3, 4], [1, 2, 3, 4, 5], [], [], [7, 8], [7, 8, 9], [1, 2, 3, 4, 5, 6, 7, 8, 9, 10], [1, 2, 3, 4, 5, 6, 7, 8, 9, 10, 11], [0, 1, 2, 3, 4, 5, 6, 7, 8, 9, 10, 11, 12], [0, 1, 2, 3, 4, 5, 6, 7, 8, 9, 10, 11, 12, 13]] (by kernel_rfl) (by kernel_rfl) (by kernel_rfl) (by kernel_rfl) ?_; simp only [List.take_succ_cons, List.take_zero, List.drop_succ_cons, List.drop_zero, List.take_nil, List.drop_nil]
          (repeat (apply VD_der; (case h => (intro us w' hx hf; obtain ⟨x, rfl⟩ := hx.out; refine ⟨rfl, ?_⟩; simp [go_sem, execOp, *]; (try simp (disch := omega) only [Go.IntWalk.i64_in, Go.IntWalk.rem_in, Go.IntWalk.wrap64_in]); rfl)); (try simp only [Act.put, List.setIfInBounds_toArray, List.set_cons_succ, List.set_cons_zero])))
          (refine VD_vag (fun p => .slice (p 0).1 1 1) (fun p w'' => Sl w'' (p 0).1 1 [y1 ^^^ y2]) (fun p w w' h hx => h.ext hx) (fun us w' hx hf => ⟨rfl, ?_⟩) ?_; (unfold gives; simp [go_sem, execOp]; exact ⟨fun _ => (some ⟨w'.heap.size, 0, none⟩, 0), rfl, Ext.of_alloc _ _, sl_new1 _ (y1 ^^^ y2) _⟩))
          (refine VD_nil ?_; intro us w' hx hf; obtain ⟨x, rfl⟩ := hx.out; (try simp only [Act.put, List.setIfInBounds_toArray, List.set_cons_succ, List.set_cons_zero, wpList_none]); (try simp only [List.mem_cons, List.not_mem_nil, or_false, forall_eq_or_imp, forall_eq, List.nil_append, List.cons_append, List.mem_append, false_or, true_and, and_true] at hf); (try simp only [Nat.reduceAdd, Nat.zero_add] at hf); (try simp only [Nat.reduceAdd, Nat.zero_add]))
          have hbw : gm + 1 ≤ (wr.ext x).heap.size := by
            have := (hR.ext hx).lt (by simp; omega)
            omega
          refine wpList_append_byL U rfl _ _ rfl (gm + 1) _ _ _ _ rfl _ 1 1 _ rfl (hOw.ext hx) hf (by omega) hbw ?_; intro sa2 sc2 w3 hOa hga hBa hra
          have hOb : Sec.Own w3 (gm + 1) sa2 (m + 1) sc2 ((List.range (m + 1)).map f) := by rw [← range_snoc, hv.out]; exact hOa
          have hC3 := (hC.ext hx).grown hga hof1
          have hE3 := (hE.ext hx).grown hga hof2
          have hR3 := (hR.ext hx).grown hga (.lt (N := gm + 1) (fun b o e => by injection e with e; injection e; omega) (fun g e => (own_lt hOw.2 g e).1))
          have hof3 := hof1.app ((hC.ext hx).lt (by omega)) hra
          have hof4 := hof2.app ((hE.ext hx).lt (by omega)) hra
          have hx3 : Ext w w3 := Below.trans (hxw.trans hx) (hBa.mono (by omega))
          clear hOa hga hf hBa hra
          go_wp2_with fail
          go_roundw
          case rel => exact ⟨k + 1, m + 1, _, _, by omega, by go_num, by have := hm.out; omega, Lib.hid (by have := hm.out; omega), rfl, hOb, hof3, hof4, hC3, hE3, hR3, hx3⟩
          case measure => simp [intOf]; omega
        · have e1 : m ≤ i + 16 := by have := hm.out; omega
          have e2 : n ≤ m ∨ i + 16 ≤ m := by have := hm.out; omega
          by_cases hk16 : k < 16
          case' neg => have k0 : ¬ (k : Int) < 16 := by omega
          case' pos =>
            have k0 : (k : Int) < 16 := by omega
            have k1 : ¬ (i : Int) + (k : Int) < (n : Int) := by omega
          all_goals
            go_wp2_with (first | (go_at_call 66; (with_reducible refine (rnext_any ?_ ?_ ?_ ?_ ?hq28).mono ?_); (case hq28 => (repeat' (first | with_reducible assumption | (with_reducible exact zeros16 _) | (with_reducible exact sl_new1 _ _ _) | (with_reducible first | apply Sl.upE | apply Sl.upA | apply Sl.upD)))); rintro e _ ⟨_, _, rfl, hO, hx⟩; obtain ⟨_, rfl⟩ := hx.out; clear hx; have := Own.le hO; have := Own.sl hO) | fail)
            go_roundw
            case rel => exact ⟨q + 1, i + 16, m, _, a9, _, c9, by go_num, Lib.hid (by rw [hiq.out]; omega), rfl, by omega, (show Sl _ _ 16 (nxt (nxtN q ctr)) from (by (repeat' (first | with_reducible assumption | (with_reducible exact zeros16 _) | (with_reducible exact sl_new1 _ _ _) | (with_reducible first | apply Sl.upE | apply Sl.upA | apply Sl.upD))))), rfl, hmn, e1, e2, (by (repeat' (first | with_reducible assumption | (with_reducible first | apply Own.upE | apply Own.upA | apply Own.upD)))), .gt (hO.ge (by omega)) (fun g e => (own_lt hOw.2 g e).2), (by (repeat' (first | with_reducible assumption | (with_reducible first | apply Rd.upE | apply Rd.upA | apply Rd.upD)))), (by repeat (first | (with_reducible first | exact Ext.refl _ | assumption | apply Ext.alloc | apply Ext.ext | apply Ext.drew | refine Ext.setCell ?_ ?_ _) | (focus (simp [go_sem]; done))))⟩
            case measure => simp [intOf]; omega
    · obtain rfl : m = n := by omega
      go_wp2_with fail
      go_ret2
      exact ⟨_, _, rfl, by rw [hfin.out]; exact hO.sl, hle0.1, hx⟩
end Go.Proofs.YtbfgeokngekdmaaGreat

/- Layer 4: all lengths: Next, Block, Stream, and the round keys. -/
namespace Go.Aes
def nextE (l : List UInt8) : List UInt8 := if l.length = 16 then nxt l else []
def blockE (ky l : List UInt8) : List UInt8 × Int := if ky.length ≠ 16 then ([], 5) else if l.length ≠ 16 then ([], 3) else (block ky l, 0)
def streamE (ky ctr l : List UInt8) : List UInt8 × Int := if ky.length ≠ 16 then ([], 5) else if ctr.length ≠ 16 then ([], 3) else if 65535 < l.length then ([], 2) else (stream ky ctr l, 0)
def rkeys (ks : List UInt8) : List (List UInt8) := (List.range 11).map fun i => (ks.drop (16 * i)).take 16
def keysE (ky : List UInt8) : List (List UInt8) × Int := if ky.length ≠ 16 then ([], 5) else (rkeys (expand ky), 0)
theorem nxt_length16 {l : List UInt8} (h : l.length = 16) : (nxt l).length = 16 := (nxt_length l).trans h
theorem stream_length (ky ctr l : List UInt8) : (stream ky ctr l).length = l.length := streamK_length _ _ _
theorem nextE_ok {l : List UInt8} (h : l.length = 16) : nextE l = nxt l := if_pos h
theorem nextE_no {l : List UInt8} (h : l.length ≠ 16) : nextE l = [] := if_neg h
end Go.Aes
namespace Go.Proofs.YtbfgeokngekdmaaGreat
open Go.RowKit Go.Sec Go.Oct Go.Aes BigFrame

theorem Fresh.len {n m : Nat} {l k : List UInt8} {w w' : World} {e : Ending} (h : Fresh n l w e w') (hn : m = n) (hl : k = l) : Fresh m k w e w' := by subst hn hl; exact h

theorem next_full (a : Option Addr) (n c : Nat) (l : List UInt8) (w : World) (h : Sl w a n l) :
    Calls Tryz.prog 76 #[.slice a n c] w (Fresh (nextE l).length (nextE l) w) := by
  by_cases h16 : n = 16
  · subst h16
    rw [nextE_ok h.len, nxt_length16 h.len]
    exact next_any a c l w h
  · rw [nextE_no (by rw [h.len]; exact h16)]
    have hI : ((n : Int) != 16) = true := by rw [bne_iff_ne]; omega
    clear h16
    go_enter Tryz.func76, Tryz.ntmps76
    go_wp2
    go_ret
    exact ⟨_, _, rfl, Own.nil _ _, Ext.refl _⟩
theorem rnext_full (a : Option Addr) (n c : Nat) (l : List UInt8) (w : World) (h : Sl w a n l) :
    Calls Tryz.prog 66 #[.slice a n c] w (Fresh (nextE l).length (nextE l) w) := by
  by_cases h16 : n = 16
  · subst h16
    rw [nextE_ok h.len, nxt_length16 h.len]
    exact rnext_any a c l w h
  · rw [nextE_no (by rw [h.len]; exact h16)]
    have hI : ((n : Int) != 16) = true := by rw [bne_iff_ne]; omega
    clear h16
    go_enter Tryz.func66, Tryz.ntmps66
    go_wp2
    go_ret
    exact ⟨_, _, rfl, Own.nil _ _, Ext.refl _⟩

theorem read2_err (v : Value) (w w' : World) (hx : Ext w w') : Read2 0 [] v w (.returned (.tuple #[.slice none 0 0, v])) w' := ⟨_, _, rfl, Sl.nil _ _, Nat.le_refl _, hx⟩
theorem ne16 {n : Nat} (h : n ≠ 16) : ((n : Int) != 16) = true := by rw [bne_iff_ne]; omega

theorem stream_full (a b c : Option Addr) (na ca nb cb n cc : Nat) (ky ctr l : List UInt8) (w : World) (hk : Sl w a na ky) (hca : na ≤ ca) (hcv : Sl w b nb ctr) (hcb : nb ≤ cb) (hl : Sl w c n l) :
    Calls Tryz.prog 60 #[.slice a na ca, .slice b nb cb, .slice c n cc] w (Read2 (streamE ky ctr l).1.length (streamE ky ctr l).1 (.int .i64 (streamE ky ctr l).2) w) := by
  by_cases h1 : na = 16
  · subst h1
    by_cases h2 : nb = 16
    · subst h2
      by_cases h3 : 65535 < n
      · have e : streamE ky ctr l = ([], 2) := by unfold streamE; rw [if_neg (by rw [hk.len]; simp), if_neg (by rw [hcv.len]; simp), if_pos (by rw [hl.len]; exact h3)]
        rw [e]
        have hI : (65535 : Int) < (n : Int) := by omega
        clear h3 e
        go_enter Tryz.func60, Tryz.ntmps60
        go_wp2
        go_ret2
        exact read2_err _ _ _ (by repeat (first | (with_reducible first | exact Ext.refl _ | assumption | apply Ext.alloc | apply Ext.ext | apply Ext.drew | refine Ext.setCell ?_ ?_ _) | (focus (simp [go_sem]; done))))
      · have e : streamE ky ctr l = (stream ky ctr l, 0) := by unfold streamE; rw [if_neg (by rw [hk.len]; simp), if_neg (by rw [hcv.len]; simp), if_neg (by rw [hl.len]; exact h3)]
        rw [e]
        show Calls _ _ _ _ (Read2 (stream ky ctr l).length _ _ _)
        rw [show (stream ky ctr l).length = n by rw [stream_length, hl.len]]
        exact stream_any a b c ca cb cc n ky ctr l w hk hca hcv hcb hl (by omega)
    · have e : streamE ky ctr l = ([], 3) := by unfold streamE; rw [if_neg (by rw [hk.len]; simp), if_pos (by rw [hcv.len]; exact h2)]
      rw [e]
      have hI := ne16 h2
      clear h2 e
      go_enter Tryz.func60, Tryz.ntmps60
      go_wp2
      go_ret2
      exact read2_err _ _ _ (by repeat (first | (with_reducible first | exact Ext.refl _ | assumption | apply Ext.alloc | apply Ext.ext | apply Ext.drew | refine Ext.setCell ?_ ?_ _) | (focus (simp [go_sem]; done))))
  · have e : streamE ky ctr l = ([], 5) := by unfold streamE; rw [if_pos (by rw [hk.len]; exact h1)]
    rw [e]
    have hI := ne16 h1
    clear h1 e
    go_enter Tryz.func60, Tryz.ntmps60
    go_wp2
    go_ret2
    exact read2_err _ _ _ (by repeat (first | (with_reducible first | exact Ext.refl _ | assumption | apply Ext.alloc | apply Ext.ext | apply Ext.drew | refine Ext.setCell ?_ ?_ _) | (focus (simp [go_sem]; done))))

theorem rstream_full (a b c : Option Addr) (na ca nb cb n cc : Nat) (ky ctr l : List UInt8) (w : World) (hk : Sl w a na ky) (hcv : Sl w b nb ctr) (hcb : nb ≤ cb) (hl : Sl w c n l) :
    Calls Tryz.prog 48 #[.slice a na ca, .slice b nb cb, .slice c n cc] w (Read2 (streamE ky ctr l).1.length (streamE ky ctr l).1 (.int .i64 (streamE ky ctr l).2) w) := by
  by_cases h1 : na = 16
  · subst h1
    by_cases h2 : nb = 16
    · subst h2
      by_cases h3 : 65535 < n
      · have e : streamE ky ctr l = ([], 2) := by unfold streamE; rw [if_neg (by rw [hk.len]; simp), if_neg (by rw [hcv.len]; simp), if_pos (by rw [hl.len]; exact h3)]
        rw [e]
        have hI : (65535 : Int) < (n : Int) := by omega
        clear h3 e
        go_enter Tryz.func48, Tryz.ntmps48
        go_wp2
        go_ret2
        exact read2_err _ _ _ (by repeat (first | (with_reducible first | exact Ext.refl _ | assumption | apply Ext.alloc | apply Ext.ext | apply Ext.drew | refine Ext.setCell ?_ ?_ _) | (focus (simp [go_sem]; done))))
      · have e : streamE ky ctr l = (stream ky ctr l, 0) := by unfold streamE; rw [if_neg (by rw [hk.len]; simp), if_neg (by rw [hcv.len]; simp), if_neg (by rw [hl.len]; exact h3)]
        rw [e]
        show Calls _ _ _ _ (Read2 (stream ky ctr l).length _ _ _)
        rw [show (stream ky ctr l).length = n by rw [stream_length, hl.len]]
        exact rstream_any a b c ca cb cc n ky ctr l w hk hcv hcb hl (by omega)
    · have e : streamE ky ctr l = ([], 3) := by unfold streamE; rw [if_neg (by rw [hk.len]; simp), if_pos (by rw [hcv.len]; exact h2)]
      rw [e]
      have hI := ne16 h2
      clear h2 e
      go_enter Tryz.func48, Tryz.ntmps48
      go_wp2
      go_ret2
      exact read2_err _ _ _ (by repeat (first | (with_reducible first | exact Ext.refl _ | assumption | apply Ext.alloc | apply Ext.ext | apply Ext.drew | refine Ext.setCell ?_ ?_ _) | (focus (simp [go_sem]; done))))
  · have e : streamE ky ctr l = ([], 5) := by unfold streamE; rw [if_pos (by rw [hk.len]; exact h1)]
    rw [e]
    have hI := ne16 h1
    clear h1 e
    go_enter Tryz.func48, Tryz.ntmps48
    go_wp2
    go_ret2
    exact read2_err _ _ _ (by repeat (first | (with_reducible first | exact Ext.refl _ | assumption | apply Ext.alloc | apply Ext.ext | apply Ext.drew | refine Ext.setCell ?_ ?_ _) | (focus (simp [go_sem]; done))))

end Go.Proofs.YtbfgeokngekdmaaGreat

/- Layer 5 at all lengths of keys and lists. -/
namespace Go.Aes
def doubleE (l : List UInt8) : List UInt8 := if l.length = 16 then tw l else []
def subkeysE (ky : List UInt8) : List UInt8 × List UInt8 × Int := if ky.length = 16 then (sub1 (expand ky), sub2 (expand ky), 0) else ([], [], 5)
def cmacE (ky l : List UInt8) : List UInt8 × Int := if ky.length = 16 then (cmac ky l, 0) else ([], 5)
def vectorE (ky : List UInt8) (L : List (List UInt8)) : List UInt8 × Int := if ky.length = 16 then if 17 < L.length then ([], 8) else (s2v ky L, 0) else ([], 5)
end Go.Aes
namespace Go.Proofs.YtbfgeokngekdmaaGreat
open Go.RowKit Go.Sec Go.Oct Go.Aes BigFrame
/-- Readable bytes. -/
def ReadS (n : Nat) (l : List UInt8) (w : World) (e : Ending) (w' : World) : Prop := ∃ a c, e = .returned (.slice a n c) ∧ Sl w' a n l ∧ n ≤ c ∧ Ext w w'
/-- Two lists of bytes, and a code. -/
def Read3 (n : Nat) (l : List UInt8) (m : Nat) (k : List UInt8) (v : Value) (w : World) (e : Ending) (w' : World) : Prop :=
  ∃ a c b d, e = .returned (.tuple #[.slice a n c, .slice b m d, v]) ∧ Sl w' a n l ∧ n ≤ c ∧ Sl w' b m k ∧ m ≤ d ∧ Ext w w'
theorem fresh_readS {n : Nat} {l : List UInt8} {w w' : World} {e : Ending} (h : Fresh n l w e w') : ReadS n l w e w' := by
  obtain ⟨a, c, h1, h2, h3⟩ := h
  exact ⟨a, c, h1, h2.sl, h2.le.1, h3⟩

theorem rdouble_full (a : Option Addr) (n c : Nat) (l : List UInt8) (w : World) (h : Sl w a n l) :
    Calls Tryz.prog 84 #[.slice a n c] w (ReadS (doubleE l).length (doubleE l) w) := by
  by_cases h16 : n = 16
  · subst h16
    have e : doubleE l = tw l := if_pos h.len
    rw [e, tw_length]
    exact (rdouble_any a c l w h).mono fun _ _ h => fresh_readS h
  · have e : doubleE l = [] := if_neg (by rw [h.len]; exact h16)
    rw [e]
    have hI := ne16 h16
    clear h16 e
    go_enter Tryz.func84, Tryz.ntmps84
    go_wp2
    go_ret
    exact ⟨_, _, rfl, Sl.nil _ _, Nat.le_refl _, Ext.refl _⟩

def kz0 : List Value := .pointer none :: List.replicate 32 (u8v 0)
theorem kz0_one : ∀ v ∈ kz0, v.oneCell' = true := by
  intro v hv
  simp [kz0] at hv
  rcases hv with rfl | rfl <;> rfl
def ReadyNo (w : World) (e : Ending) (w' : World) : Prop := ∃ ks : List Value, e = .returned (.tuple #[.agg ks.toArray, .int .i64 5]) ∧ ks.length = 33 ∧ (∀ v ∈ ks, v.oneCell' = true) ∧ Ext w w'

set_option maxRecDepth 100000 in
set_option maxHeartbeats 4000000 in
theorem ready_no (a : Option Addr) (n c : Nat) (w : World) (h16 : n ≠ 16) :
    Calls Tryz.prog 77 #[.slice a n c] w (ReadyNo w) := by
  have hI := ne16 h16
  clear h16
  have hZ : Blk (w.alloc (.cells kz0.toArray 104)) w.heap.size 104 kz0 := Blk.new w kz0.toArray _
  have hx0 : Ext w (w.alloc (.cells kz0.toArray 104)) := (by repeat (first | (with_reducible first | exact Ext.refl _ | assumption | apply Ext.alloc | apply Ext.ext | apply Ext.drew | refine Ext.setCell ?_ ?_ _) | (focus (simp [go_sem]; done))))
  go_enter Tryz.func77, Tryz.ntmps77
  go_wp2_with (first
    | (refine wpList_store_arr R71 rfl (.tmp 2) (.tmp 9) rfl w.heap.size 0 rfl kz0 rfl 104 kz0 hZ rfl (Nat.le_refl _) kz0_one ?_; intro w1 hB1 hM1)
    | fail)
  have hB2 : Blk w1 w.heap.size 104 kz0 := hB1
  have hx1 : Ext w w1 := Below.trans hx0 (hM1.below (Nat.le_refl _) hx0.size)
  refine bodyPost_ret (results_arr_tmp Tryz.results77 (R71) _ _ (w.heap.size) (0) (kz0) rfl (hB2.rd) (rfl) (.int .i64 5) rfl) rfl ?_
  exact ⟨kz0, rfl, rfl, kz0_one, hx1⟩

set_option maxRecDepth 100000 in
set_option maxHeartbeats 4000000 in
theorem vector_full (a b : Option Addr) (n ca m cb : Nat) (ky : List UInt8) (L : List (List UInt8)) (w : World) (hk : Sl w a n ky) (hca : n ≤ ca) (hl : Bsc w b m L) (hmc : m ≤ cb) (hmax : ∀ x ∈ L, x.length ≤ 65535) :
    Calls Tryz.prog 61 #[.slice a n ca, .slice b m cb] w (Read2 (vectorE ky L).1.length (vectorE ky L).1 (.int .i64 (vectorE ky L).2) w) := by
  by_cases h16 : n = 16
  · subst h16
    by_cases h17 : 17 < m
    · have e : vectorE ky L = ([], 8) := by unfold vectorE; rw [if_pos hk.len, if_pos (by rw [hl.len]; exact h17)]
      rw [e]
      have hI : (17 : Int) < (m : Int) := by omega
      have hr := ready_any a ca ky w hk hca
      clear e
      have hs1 := tw_length (enc (expand ky) zero16)
      have hs2 := tw_length (sub1 (expand ky))
      go_enter Tryz.func61, Tryz.ntmps61
      go_wp2_with fail
      refine hr.mono ?_
      rintro e w1 ⟨g, rfl, hg, hB, hx1⟩
      clear hr
      have hkl := kc_length g (sub1 (expand ky)) (sub2 (expand ky)) hs1 hs2
      have hk1 := kc_one g (sub1 (expand ky)) (sub2 (expand ky))
      generalize kc g (sub1 (expand ky)) (sub2 (expand ky)) = kk at *
      go_wp2_with (first
        | (refine wpList_alloc_store (R71) rfl rfl _ _ rfl rfl rfl rfl (by simp [Act.put]) (kk) rfl (by simp) (hkl) (hk1) ?_; intro x hBk _)
        | fail)
      go_ret2
      exact read2_err _ _ _ (by repeat (first | (with_reducible first | exact Ext.refl _ | assumption | apply Ext.alloc | apply Ext.ext | apply Ext.drew | refine Ext.setCell ?_ ?_ _) | (focus (simp [go_sem]; done))))
    · have e : vectorE ky L = (s2v ky L, 0) := by unfold vectorE; rw [if_pos hk.len, if_neg (by rw [hl.len]; exact h17)]
      rw [e]
      show Calls _ _ _ _ (Read2 (s2v ky L).length _ _ _)
      rw [s2v_length]
      exact vector_any a b ca m cb ky L w hk hca hl hmc (by omega) hmax
  · have e : vectorE ky L = ([], 5) := if_neg (by rw [hk.len]; exact h16)
    rw [e]
    clear e
    go_enter Tryz.func61, Tryz.ntmps61
    go_wp2_with fail
    (refine (ready_no _ _ _ _ h16).mono ?_; rintro e w1 ⟨kz, rfl, hkl, hk1, hx1⟩)
    go_wp2_with (first
      | (refine wpList_alloc_store (R71) rfl rfl _ _ rfl rfl rfl rfl (by simp [Act.put]) (kz) rfl (by simp) (hkl) (hk1) ?_; intro x hBk _)
      | fail)
    go_ret2
    exact read2_err _ _ _ (by repeat (first | (with_reducible first | exact Ext.refl _ | assumption | apply Ext.alloc | apply Ext.ext | apply Ext.drew | refine Ext.setCell ?_ ?_ _) | (focus (simp [go_sem]; done))))
set_option maxRecDepth 100000 in
set_option maxHeartbeats 4000000 in
theorem rvector_full (a b : Option Addr) (n ca m cb : Nat) (ky : List UInt8) (L : List (List UInt8)) (w : World) (hk : Sl w a n ky) (hl : Bsc w b m L) (hmax : ∀ x ∈ L, x.length ≤ 65535) :
    Calls Tryz.prog 67 #[.slice a n ca, .slice b m cb] w (Read2 (vectorE ky L).1.length (vectorE ky L).1 (.int .i64 (vectorE ky L).2) w) := by
  by_cases h16 : n = 16
  · subst h16
    by_cases h17 : 17 < m
    · have e : vectorE ky L = ([], 8) := by unfold vectorE; rw [if_pos hk.len, if_pos (by rw [hl.len]; exact h17)]
      rw [e]
      have hI : (17 : Int) < (m : Int) := by omega
      clear e
      go_enter Tryz.func67, Tryz.ntmps67
      go_wp2_with fail
      go_ret2
      exact read2_err _ _ _ (by repeat (first | (with_reducible first | exact Ext.refl _ | assumption | apply Ext.alloc | apply Ext.ext | apply Ext.drew | refine Ext.setCell ?_ ?_ _) | (focus (simp [go_sem]; done))))
    · have e : vectorE ky L = (s2v ky L, 0) := by unfold vectorE; rw [if_pos hk.len, if_neg (by rw [hl.len]; exact h17)]
      rw [e]
      show Calls _ _ _ _ (Read2 (s2v ky L).length _ _ _)
      rw [s2v_length]
      exact rvector_any a b ca m cb ky L w hk hl (by omega) hmax
  · have e : vectorE ky L = ([], 5) := if_neg (by rw [hk.len]; exact h16)
    rw [e]
    have hI := ne16 h16
    clear e
    go_enter Tryz.func67, Tryz.ntmps67
    go_wp2_with fail
    go_ret2
    exact read2_err _ _ _ (by repeat (first | (with_reducible first | exact Ext.refl _ | assumption | apply Ext.alloc | apply Ext.ext | apply Ext.drew | refine Ext.setCell ?_ ?_ _) | (focus (simp [go_sem]; done))))
end Go.Proofs.YtbfgeokngekdmaaGreat

/- Layer 6 as plain functions. No program. -/
namespace Go.Aes
def longA (A : List (List UInt8)) : Bool := A.any fun x => decide (65519 < x.length)
def checkA (ky : List UInt8) (A : List (List UInt8)) : Int := if ky.length ≠ 32 then 5 else if 16 < A.length then 8 else if longA A then 2 else 0
def tagE (ky : List UInt8) (A : List (List UInt8)) (p : List UInt8) : List UInt8 × Int :=
  if checkA ky A ≠ 0 then ([], checkA ky A) else if 65519 < p.length then ([], 2) else (s2v (ky.take 16) (A ++ [p]), 0)
def ctrOf (t : List UInt8) : List UInt8 := (t.set 8 (at' t 8 &&& 127)).set 12 (at' t 12 &&& 127)
theorem ctrOf_length (t : List UInt8) : (ctrOf t).length = t.length := by simp [ctrOf]
def sealE (ky : List UInt8) (A : List (List UInt8)) (p : List UInt8) : List UInt8 × Int :=
  if (tagE ky A p).2 ≠ 0 then ([], (tagE ky A p).2) else ((tagE ky A p).1 ++ stream (ky.drop 16) (ctrOf (tagE ky A p).1) p, 0)
def plainOf (ky s : List UInt8) : List UInt8 := stream (ky.drop 16) (ctrOf (s.take 16)) (s.drop 16)
def openE (ky : List UInt8) (A : List (List UInt8)) (s : List UInt8) : List UInt8 × Int :=
  if checkA ky A ≠ 0 then ([], checkA ky A) else if 65535 < s.length then ([], 2) else if s.length < 16 then ([], 1)
  else if (tagE ky A (plainOf ky s)).1 = s.take 16 then (plainOf ky s, 0) else ([], 6)
theorem longA_no {A : List (List UInt8)} (h : longA A = false) : ∀ x ∈ A, x.length ≤ 65519 := fun x hx => by
  unfold longA at h
  rw [List.any_eq_false] at h
  have := h x hx
  simp at this
  exact this
theorem checkA_ok {ky : List UInt8} {A : List (List UInt8)} (h : checkA ky A = 0) : ky.length = 32 ∧ A.length ≤ 16 ∧ ∀ x ∈ A, x.length ≤ 65519 := by
  unfold checkA at h
  split at h
  · cases h
  · split at h
    · cases h
    · split at h
      · cases h
      · rename_i h1 h2 h3
        exact ⟨by omega, by omega, longA_no (by simpa using h3)⟩
theorem tagE_ok {ky : List UInt8} {A : List (List UInt8)} {p : List UInt8} (h : checkA ky A = 0) (hp : p.length ≤ 65519) : tagE ky A p = (s2v (ky.take 16) (A ++ [p]), 0) := by
  unfold tagE
  rw [if_neg (by rw [h]; simp), if_neg (by omega)]
theorem tagE_len {ky : List UInt8} {A : List (List UInt8)} {p : List UInt8} (h : (tagE ky A p).2 = 0) : (tagE ky A p).1.length = 16 ∧ checkA ky A = 0 ∧ p.length ≤ 65519 := by
  unfold tagE at h ⊢
  split at h
  · rename_i h1; exact absurd h h1
  · split at h
    · cases h
    · rename_i h1 h2
      rw [if_neg h1, if_neg h2]
      exact ⟨s2v_length _ _, by simpa using h1, by omega⟩
theorem plainOf_length {ky s : List UInt8} : (plainOf ky s).length = s.length - 16 := by simp [plainOf, stream_length]
end Go.Aes

/- Layer 4: the round keys, both ways. -/
namespace Go.Aes
theorem rkeys_snoc (ks : List UInt8) (i : Nat) : (List.range i).map (fun i => (ks.drop (16 * i)).take 16) ++ [(ks.drop (16 * i)).take 16] = (List.range (i + 1)).map fun i => (ks.drop (16 * i)).take 16 := range_snoc _ i
theorem pre_part (ks : List UInt8) (h : ks.length = 176) (q : Nat) (hq : q < 11) : ((pre ks).drop (16 * q)).take 16 = (ks.drop (16 * q)).take 16 := by
  unfold pre
  rw [List.drop_append_of_le_length (by omega), List.take_append_of_le_length (by simp; omega)]
end Go.Aes
namespace Go.Proofs.YtbfgeokngekdmaaGreat
open Go.RowKit Go.Sec Go.Oct Go.Aes BigFrame
theorem info22 : (Tryz.prog.info? 27).map (fun i => (i.zero, i.size, i.bytes)) = some (some (.slice none 0 0), 1, 24) := by kernel_rfl
theorem V8 : S8 Tryz.prog := ⟨Tryz.underlying59, info_parts info22⟩
theorem RK : RowT Tryz.prog 114 176 := ⟨⟨_, Tryz.underlying114, rfl⟩, by kernel_rfl, ⟨_, Tryz.zeroValue114, by kernel_rfl⟩⟩
def ReadB (n : Nat) (L : List (List UInt8)) (v : Value) (w : World) (e : Ending) (w' : World) : Prop :=
  ∃ a c, e = .returned (.tuple #[.slice a n c, v]) ∧ Bsc w' a n L ∧ n ≤ c ∧ Ext w w'

end Go.Proofs.YtbfgeokngekdmaaGreat

/- Open undoes Seal: plain functions. No program. -/
namespace Go.Aes
theorem sealE_ok {ky : List UInt8} {A : List (List UInt8)} {p : List UInt8} (h : checkA ky A = 0) (hp : p.length ≤ 65519) :
    sealE ky A p = (s2v (ky.take 16) (A ++ [p]) ++ stream (ky.drop 16) (ctrOf (s2v (ky.take 16) (A ++ [p]))) p, 0) := by
  unfold sealE
  rw [tagE_ok h hp, if_neg (by simp)]
theorem openE_seal {ky : List UInt8} {A : List (List UInt8)} {p : List UInt8} (h : checkA ky A = 0) (hp : p.length ≤ 65519) : openE ky A (sealE ky A p).1 = (p, 0) := by
  rw [sealE_ok h hp]
  have ht := s2v_length (ky.take 16) (A ++ [p])
  generalize hT : s2v (ky.take 16) (A ++ [p]) = t at *
  have h1 : (t ++ stream (ky.drop 16) (ctrOf t) p).take 16 = t := by rw [List.take_append_of_le_length (by omega), List.take_of_length_le (by omega)]
  have h2 : (t ++ stream (ky.drop 16) (ctrOf t) p).drop 16 = stream (ky.drop 16) (ctrOf t) p := by rw [List.drop_append_of_le_length (by omega), List.drop_of_length_le (by omega), List.nil_append]
  have h3 : plainOf ky (t ++ stream (ky.drop 16) (ctrOf t) p) = p := by
    unfold plainOf
    rw [h1, h2]
    exact streamK_undo _ _ _
  have hsl := stream_length (ky.drop 16) (ctrOf t) p
  unfold openE
  rw [if_neg (by rw [h]; simp), if_neg (by simp [ht, hsl]; omega), if_neg (by simp [ht]), h3, tagE_ok h hp, h1, hT, if_pos rfl]
end Go.Aes
