/- Lemmas of this claim, several texts joined. -/
import Derived.Test.YthooaeeajeajnaaZ8
import Derived.Test.YthooaeeajeajnaaZ9
import Derived.Test.YthooaeeajeajnaaZ14
import Derived.Test.YthooaeeajeajnaaZ18
import Derived.Test.YthooaeeajeajnaaZ23
import Derived.Test.YthooaeeajeajnaaZ24
set_option linter.unusedVariables false
set_option linter.unusedSimpArgs false
/- Layer 4: the stream of the document. -/
namespace Go.Aes
theorem streamK_range (ks ctr l : List UInt8) : streamK ks ctr l = (List.range l.length).map (strF ks ctr l) := by
  refine ext_at (by rw [streamK_length]; simp) fun i hi => ?_
  have hi' : i < l.length := by simpa using hi
  rw [streamK_at _ _ _ _ hi', at_get _ _ hi]
  simp
theorem strF_at (ks ctr l : List UInt8) (q k : Nat) (hk : k < 16) : strF ks ctr l (16 * q + k) = at' l (16 * q + k) ^^^ at' (enc ks (nxtN q ctr)) k := by
  unfold strF
  rw [show (16 * q + k) / 16 = q by omega, show (16 * q + k) % 16 = k by omega]
theorem range_snoc {α : Type} (f : Nat → α) (m : Nat) : (List.range m).map f ++ [f m] = (List.range (m + 1)).map f := by
  rw [List.range_succ, List.map_append]; rfl
end Go.Aes
namespace Go.Sec
open Go.RowKit Go.Aes
theorem Sl.atq {w : World} {a : Option Addr} {n : Nat} {l : List UInt8} (h : Sl w a n l) (k : Nat) (hk : k < n) :
    ∃ b off, a = some ⟨b, off, none⟩ ∧ BlkLt b w ∧ w.cell? ⟨b, off + k, none⟩ = some (.int .u8 (n8 (at' l k))) := by
  obtain ⟨b, off, h1, h2, h3⟩ := h.at k hk
  exact ⟨b, off, h1, h2, by rw [at_get l k (by have := h.len; omega)]; exact h3⟩
end Go.Sec
namespace Go.Proofs.Ythooaeeajeajnaa
open Go.RowKit Go.Sec Go.Oct Go.Aes BigFrame

set_option maxRecDepth 100000 in
set_option maxHeartbeats 4000000 in
theorem rstream_any (a b c : Option Addr) (ca cb cc n : Nat) (ky ctr l : List UInt8) (w : World) (hk : Sl w a 16 ky) (hcv : Sl w b 16 ctr) (hcb : 16 ≤ cb) (hl : Sl w c n l) (hn : n ≤ 65535) :
    Calls Try.prog 33 #[.slice a 16 ca, .slice b 16 cb, .slice c n cc] w (Read2 n (stream ky ctr l) (.int .i64 0) w) := by
  have hks : (expand ky).length = 176 := words_length ky 40 hk.len
  have hfin := Lib.hid (show stream ky ctr l = (List.range n).map (strF (expand ky) ctr l) by unfold stream; rw [streamK_range, hl.len])
  have hes := Lib.hid (fun q k => strF_at (expand ky) ctr l q k)
  have hp := fun w h => prepare_any a ca ky w h
  have hpl := pre_length (expand ky) (by omega)
  have hen := fun a c l w h hc => renc_any a c (expand ky) l hks w h hc
  generalize pre (expand ky) = pk at *
  generalize expand ky = ks at *
  generalize strF ks ctr l = f at *
  have hnI : ¬ (65535 : Int) < (n : Int) := by omega
  go_enter Try.func33, Try.ntmps33
  go_wp2_with (first
    | (go_at_call 67; (with_reducible refine (hp ?_ ?hq2).mono ?_); (case hq2 => (repeat' (first | with_reducible assumption | (with_reducible exact zeros16 _) | (with_reducible exact sl_new1 _ _ _) | (with_reducible first | apply Sl.upE | apply Sl.upA | apply Sl.upD)))); rintro e w1 ⟨rfl, hxq⟩; obtain ⟨xq, rfl⟩ := hxq.out; clear hxq)
    | ((refine wpList_alloc_store (R84) rfl rfl _ _ rfl rfl rfl rfl (by simp [Act.put]) (pk.map u8v) rfl (by simp) ((by simpa using hpl)) (one_u8 _) ?_; intro x2 hBx _); have hRx := hBx.rd; clear hBx)
    | fail)
  obtain ⟨gm, hgm⟩ : ∃ gm, Hid (gm = (w.ext xq).heap.size) := ⟨_, Lib.hid rfl⟩
  rw [← hgm.out] at hRx ⊢
  have hxx : Ext w ((w.ext xq).ext x2) := (by repeat (first | (with_reducible first | exact Ext.refl _ | assumption | apply Ext.alloc | apply Ext.ext | apply Ext.drew | refine Ext.setCell ?_ ?_ _) | (focus (simp [go_sem]; done))))
  have hgw : w.heap.size ≤ gm := by rw [hgm.out]; exact (Ext.of_ext w xq).size
  have hgl : gm + 1 ≤ ((w.ext xq).ext x2).heap.size := by
    have := hRx.lt (by simp; omega)
    omega
  go_loopw [1, 9, 10] (fun v1 v9 v10 wr => ∃ (q i m : Nat) (a1 a9 : Option Addr) (c1 c9 : Nat), v10 = .int .i64 i ∧ Hid (i = 16 * q) ∧ v1 = .slice a1 16 c1 ∧ 16 ≤ c1 ∧ Sl wr a1 16 (nxtN q ctr) ∧ v9 = .slice a9 m c9 ∧ m ≤ n ∧ m ≤ i ∧ (n ≤ m ∨ i ≤ m) ∧ Sec.Own wr (gm + 1) a9 m c9 ((List.range m).map f) ∧ Off a1 (Value.slice a9 m c9).ownBlock ∧ Rd wr (some ⟨gm, 0, none⟩) (pk.map u8v) ∧ Ext w wr) (fun _ _ v10 _ => n - (intOf v10).toNat)
  case atStart =>
    refine ⟨0, 0, 0, _, _, _, _, rfl, Lib.hid rfl, rfl, hcb, (show Sl _ b 16 ctr from (by (repeat' (first | with_reducible assumption | (with_reducible exact zeros16 _) | (with_reducible exact sl_new1 _ _ _) | (with_reducible first | apply Sl.upE | apply Sl.upA | apply Sl.upD))))), rfl, by omega, by omega, by omega, (own_empty _).mono hgl, ?_, (by (repeat' (first | with_reducible assumption | (with_reducible first | apply Rd.upE | apply Rd.upA | apply Rd.upD)))), (by repeat (first | (with_reducible first | exact Ext.refl _ | assumption | apply Ext.alloc | apply Ext.ext | apply Ext.drew | refine Ext.setCell ?_ ?_ _) | (focus (simp [go_sem]; done))))⟩
    exact .lt (N := w.heap.size) (hcv.lt (by omega)) (fun g e => by have e : ((w.ext xq).ext x2).heap.size = g := Option.some.inj e; omega)
  case round =>
    clear hRx hgl hxx
    obtain ⟨q, i, m, a1, a9, c1, c9, rfl, hiq, rfl, hc1, hC, rfl, hmn, hmi, hor, hO, hof, hR, hx⟩ := hrel
    have hle0 := hO.le
    by_cases hlt : i < n
    · have hltI : (i : Int) < (n : Int) := by omega
      obtain rfl : i = m := by omega
      go_wp2_with (first
        | (refine wpList_load_arr (R84) rfl _ rfl (gm) (0) rfl (pk.map u8v) (hR) ((by simpa using hpl)) ?_)
        | fail)
      refine (hen _ _ _ _ hC hc1).mono ?_; rintro e W2 ⟨a2, c2, rfl, hO2, hx2⟩
      have hes1 := Lib.hid (fun k => hes.out q k)
      have hek := hO2.sl
      have hof2 : Off a2 (Value.slice a9 i c9).ownBlock := .gt (hO2.ge (by omega)) (fun g e => (own_lt hO.2 g e).2)
      generalize enc ks (nxtN q ctr) = ek at *
      have hekl := hek.len
      have hxw2 := hx.trans hx2
      have hC2 := hC.ext hx2
      have hR2 := hR.ext hx2
      have hO2' := hO.ext hx2
      clear hO2 hx hx2 hC hR hO
      go_wp2_with fail
      go_loopw [9, 12] (fun v9 v12 wr => ∃ (k m : Nat) (a9 : Option Addr) (c9 : Nat), k ≤ 16 ∧ v12 = .int .i64 k ∧ m ≤ n ∧ Hid (m = i + k) ∧ v9 = .slice a9 m c9 ∧ Sec.Own wr (gm + 1) a9 m c9 ((List.range m).map f) ∧ Off a1 (Value.slice a9 m c9).ownBlock ∧ Off a2 (Value.slice a9 m c9).ownBlock ∧ Sl wr a1 16 (nxtN q ctr) ∧ Sl wr a2 16 ek ∧ Rd wr (some ⟨gm, 0, none⟩) (pk.map u8v) ∧ Ext w wr) (fun _ v12 _ => 16 - (intOf v12).toNat)
      case atStart => exact ⟨0, i, _, _, by omega, rfl, by omega, Lib.hid rfl, rfl, hO2', hof, hof2, hC2, hek, hR2, hxw2⟩
      case round =>
        clear hO2' hC2 hek hR2 hxw2 hof hof2
        obtain ⟨k, m, a9, c9, hk, rfl, hmn, hm, rfl, hOw, hof1, hof2, hC, hE, hR, hx⟩ := hrel
        have hle := hOw.le
        by_cases hkn : k < 16 ∧ i + k < n
        · obtain ⟨hk16, hin⟩ := hkn
          have k0 : (k : Int) < 16 := by omega
          have k1 : (i : Int) + (k : Int) < (n : Int) := by omega
          have k2 : (0 : Int) ≤ (i : Int) + (k : Int) := by omega
          have k3 : (0 : Int) ≤ (k : Int) := by omega
          have k4 : ((i : Int) + (k : Int)).toNat = i + k := by omega
          obtain ⟨b1, o1, rfl, hb1, hc1'⟩ := (hl.ext hx).atq (i + k) hin
          obtain ⟨b2, o2, rfl, hb2, hc2'⟩ := hE.atq k hk16
          have hv := Lib.hid (show f m = at' l (i + k) ^^^ at' ek k by rw [hm.out, hiq.out]; exact hes1.out k hk16)
          generalize at' l (i + k) = y1 at *
          generalize at' ek k = y2 at *
          have hxw := hx
          go_wp2
          refine wp_region_vague 13 [[], [], [], [], [2, 3], [1, 2, 3, 4], [1, 2, 3, 4, 5], [], [], [7, 8], [7, 8, 9], [1, 2, 3, 4, 5, 6, 7, 8, 9, 10], [1, 2, 3, 4, 5, 6, 7, 8, 9, 10, 11], [0, 1, 2, 3, 4, 5, 6, 7, 8, 9, 10, 11, 12], [0, 1, 2, 3, 4, 5, 6, 7, 8, 9, 10, 11, 12, 13]] (by kernel_rfl) (by kernel_rfl) (by kernel_rfl) (by kernel_rfl) ?_; simp only [List.take_succ_cons, List.take_zero, List.drop_succ_cons, List.drop_zero, List.take_nil, List.drop_nil]
          (repeat (apply VD_der; (case h => (intro us w' hx hf; obtain ⟨x, rfl⟩ := hx.out; refine ⟨rfl, ?_⟩; simp [go_sem, execOp, *]; (try simp (disch := omega) only [Go.IntWalk.i64_in, Go.IntWalk.rem_in, Go.IntWalk.wrap64_in]); rfl)); (try simp only [Act.put, List.setIfInBounds_toArray, List.set_cons_succ, List.set_cons_zero])))
          (refine VD_vag (fun p => .slice (p 0).1 1 1) (fun p w'' => Sl w'' (p 0).1 1 [y1 ^^^ y2]) (fun p w w' h hx => h.ext hx) (fun us w' hx hf => ⟨rfl, ?_⟩) ?_; (unfold gives; simp [go_sem, execOp]; exact ⟨fun _ => (some ⟨w'.heap.size, 0, none⟩, 0), rfl, Ext.of_alloc _ _, sl_new1 _ (y1 ^^^ y2) _⟩))
          (refine VD_nil ?_; intro us w' hx hf; obtain ⟨x, rfl⟩ := hx.out; (try simp only [Act.put, List.setIfInBounds_toArray, List.set_cons_succ, List.set_cons_zero, wpList_none]); (try simp only [List.mem_cons, List.not_mem_nil, or_false, forall_eq_or_imp, forall_eq, List.nil_append, List.cons_append, List.mem_append, false_or, true_and, and_true] at hf); (try simp only [Nat.reduceAdd, Nat.zero_add] at hf); (try simp only [Nat.reduceAdd, Nat.zero_add]))
          have hbw : gm + 1 ≤ (wr.ext x).heap.size := by
            have := (hR.ext hx).lt (by simp; omega)
            omega
          refine wpList_append_byL U rfl _ _ rfl (gm + 1) _ _ _ _ rfl _ 1 1 _ rfl (hOw.ext hx) hf (by omega) hbw ?_; intro sa2 sc2 w3 hOa hga hBa hra
          have hOb : Sec.Own w3 (gm + 1) sa2 (m + 1) sc2 ((List.range (m + 1)).map f) := by rw [← range_snoc, hv.out]; exact hOa
          have hC3 := (hC.ext hx).grown hga hof1
          have hE3 := (hE.ext hx).grown hga hof2
          have hR3 := (hR.ext hx).grown hga (.lt (N := gm + 1) (fun b o e => by injection e with e; injection e; omega) (fun g e => (own_lt hOw.2 g e).1))
          have hof3 := hof1.app ((hC.ext hx).lt (by omega)) hra
          have hof4 := hof2.app ((hE.ext hx).lt (by omega)) hra
          have hx3 : Ext w w3 := Below.trans (hxw.trans hx) (hBa.mono (by omega))
          clear hOa hga hf hBa hra
          go_wp2_with fail
          go_roundw
          case rel => exact ⟨k + 1, m + 1, _, _, by omega, by go_num, by have := hm.out; omega, Lib.hid (by have := hm.out; omega), rfl, hOb, hof3, hof4, hC3, hE3, hR3, hx3⟩
          case measure => simp [intOf]; omega
        · have e1 : m ≤ i + 16 := by have := hm.out; omega
          have e2 : n ≤ m ∨ i + 16 ≤ m := by have := hm.out; omega
          by_cases hk16 : k < 16
          case' neg => have k0 : ¬ (k : Int) < 16 := by omega
          case' pos =>
            have k0 : (k : Int) < 16 := by omega
            have k1 : ¬ (i : Int) + (k : Int) < (n : Int) := by omega
          all_goals
            go_wp2_with (first | (go_at_call 35; (with_reducible refine (rnext_any ?_ ?_ ?_ ?_ ?hq1).mono ?_); (case hq1 => (repeat' (first | with_reducible assumption | (with_reducible exact zeros16 _) | (with_reducible exact sl_new1 _ _ _) | (with_reducible first | apply Sl.upE | apply Sl.upA | apply Sl.upD)))); rintro e _ ⟨_, _, rfl, hO, hx⟩; obtain ⟨_, rfl⟩ := hx.out; clear hx; have := Own.le hO; have := Own.sl hO) | fail)
            go_roundw
            case rel => exact ⟨q + 1, i + 16, m, _, a9, _, c9, by go_num, Lib.hid (by rw [hiq.out]; omega), rfl, by omega, (show Sl _ _ 16 (nxt (nxtN q ctr)) from (by (repeat' (first | with_reducible assumption | (with_reducible exact zeros16 _) | (with_reducible exact sl_new1 _ _ _) | (with_reducible first | apply Sl.upE | apply Sl.upA | apply Sl.upD))))), rfl, hmn, e1, e2, (by (repeat' (first | with_reducible assumption | (with_reducible first | apply Own.upE | apply Own.upA | apply Own.upD)))), .gt (hO.ge (by omega)) (fun g e => (own_lt hOw.2 g e).2), (by (repeat' (first | with_reducible assumption | (with_reducible first | apply Rd.upE | apply Rd.upA | apply Rd.upD)))), (by repeat (first | (with_reducible first | exact Ext.refl _ | assumption | apply Ext.alloc | apply Ext.ext | apply Ext.drew | refine Ext.setCell ?_ ?_ _) | (focus (simp [go_sem]; done))))⟩
            case measure => simp [intOf]; omega
    · obtain rfl : m = n := by omega
      go_wp2_with fail
      go_ret2
      exact ⟨_, _, rfl, by rw [hfin.out]; exact hO.sl, hle0.1, hx⟩
end Go.Proofs.Ythooaeeajeajnaa

/- Layer 4: all lengths: Next, Block, Stream, and the round keys. -/
namespace Go.Aes
def nextE (l : List UInt8) : List UInt8 := if l.length = 16 then nxt l else []
def blockE (ky l : List UInt8) : List UInt8 × Int := if ky.length ≠ 16 then ([], 5) else if l.length ≠ 16 then ([], 3) else (block ky l, 0)
def streamE (ky ctr l : List UInt8) : List UInt8 × Int := if ky.length ≠ 16 then ([], 5) else if ctr.length ≠ 16 then ([], 3) else if 65535 < l.length then ([], 2) else (stream ky ctr l, 0)
def rkeys (ks : List UInt8) : List (List UInt8) := (List.range 11).map fun i => (ks.drop (16 * i)).take 16
def keysE (ky : List UInt8) : List (List UInt8) × Int := if ky.length ≠ 16 then ([], 5) else (rkeys (expand ky), 0)
theorem nxt_length16 {l : List UInt8} (h : l.length = 16) : (nxt l).length = 16 := (nxt_length l).trans h
theorem stream_length (ky ctr l : List UInt8) : (stream ky ctr l).length = l.length := streamK_length _ _ _
theorem nextE_ok {l : List UInt8} (h : l.length = 16) : nextE l = nxt l := if_pos h
theorem nextE_no {l : List UInt8} (h : l.length ≠ 16) : nextE l = [] := if_neg h
end Go.Aes
namespace Go.Proofs.Ythooaeeajeajnaa
open Go.RowKit Go.Sec Go.Oct Go.Aes BigFrame

theorem Fresh.len {n m : Nat} {l k : List UInt8} {w w' : World} {e : Ending} (h : Fresh n l w e w') (hn : m = n) (hl : k = l) : Fresh m k w e w' := by subst hn hl; exact h

theorem next_full (a : Option Addr) (n c : Nat) (l : List UInt8) (w : World) (h : Sl w a n l) :
    Calls Try.prog 29 #[.slice a n c] w (Fresh (nextE l).length (nextE l) w) := by
  by_cases h16 : n = 16
  · subst h16
    rw [nextE_ok h.len, nxt_length16 h.len]
    exact next_any a c l w h
  · rw [nextE_no (by rw [h.len]; exact h16)]
    have hI : ((n : Int) != 16) = true := by rw [bne_iff_ne]; omega
    clear h16
    go_enter Try.func29, Try.ntmps29
    go_wp2
    go_ret
    exact ⟨_, _, rfl, Own.nil _ _, Ext.refl _⟩
theorem rnext_full (a : Option Addr) (n c : Nat) (l : List UInt8) (w : World) (h : Sl w a n l) :
    Calls Try.prog 35 #[.slice a n c] w (Fresh (nextE l).length (nextE l) w) := by
  by_cases h16 : n = 16
  · subst h16
    rw [nextE_ok h.len, nxt_length16 h.len]
    exact rnext_any a c l w h
  · rw [nextE_no (by rw [h.len]; exact h16)]
    have hI : ((n : Int) != 16) = true := by rw [bne_iff_ne]; omega
    clear h16
    go_enter Try.func35, Try.ntmps35
    go_wp2
    go_ret
    exact ⟨_, _, rfl, Own.nil _ _, Ext.refl _⟩

theorem read2_err (v : Value) (w w' : World) (hx : Ext w w') : Read2 0 [] v w (.returned (.tuple #[.slice none 0 0, v])) w' := ⟨_, _, rfl, Sl.nil _ _, Nat.le_refl _, hx⟩
theorem ne16 {n : Nat} (h : n ≠ 16) : ((n : Int) != 16) = true := by rw [bne_iff_ne]; omega

theorem block_full (a b : Option Addr) (na ca nb cb : Nat) (ky l : List UInt8) (w : World) (hk : Sl w a na ky) (hl : Sl w b nb l) (hca : na ≤ ca) :
    Calls Try.prog 18 #[.slice a na ca, .slice b nb cb] w (Read2 (blockE ky l).1.length (blockE ky l).1 (.int .i64 (blockE ky l).2) w) := by
  by_cases h1 : na = 16
  · subst h1
    by_cases h2 : nb = 16
    · subst h2
      have e : blockE ky l = (block ky l, 0) := by unfold blockE; rw [if_neg (by rw [hk.len]; simp), if_neg (by rw [hl.len]; simp)]
      rw [e]
      show Calls _ _ _ _ (Read2 (block ky l).length _ _ _)
      rw [show (block ky l).length = 16 from enc_length _ _]
      exact block_sl a b ca cb ky l w hk hl hca
    · have e : blockE ky l = ([], 3) := by unfold blockE; rw [if_neg (by rw [hk.len]; simp), if_pos (by rw [hl.len]; exact h2)]
      rw [e]
      have hI := ne16 h2
      clear h2 e
      go_enter Try.func18, Try.ntmps18
      go_wp2
      go_ret2
      exact read2_err _ _ _ (Ext.refl _)
  · have e : blockE ky l = ([], 5) := by unfold blockE; rw [if_pos (by rw [hk.len]; exact h1)]
    rw [e]
    have hI := ne16 h1
    clear h1 e
    go_enter Try.func18, Try.ntmps18
    go_wp2
    go_ret2
    exact read2_err _ _ _ (Ext.refl _)

theorem stream_full (a b c : Option Addr) (na ca nb cb n cc : Nat) (ky ctr l : List UInt8) (w : World) (hk : Sl w a na ky) (hca : na ≤ ca) (hcv : Sl w b nb ctr) (hcb : nb ≤ cb) (hl : Sl w c n l) :
    Calls Try.prog 28 #[.slice a na ca, .slice b nb cb, .slice c n cc] w (Read2 (streamE ky ctr l).1.length (streamE ky ctr l).1 (.int .i64 (streamE ky ctr l).2) w) := by
  by_cases h1 : na = 16
  · subst h1
    by_cases h2 : nb = 16
    · subst h2
      by_cases h3 : 65535 < n
      · have e : streamE ky ctr l = ([], 2) := by unfold streamE; rw [if_neg (by rw [hk.len]; simp), if_neg (by rw [hcv.len]; simp), if_pos (by rw [hl.len]; exact h3)]
        rw [e]
        have hI : (65535 : Int) < (n : Int) := by omega
        clear h3 e
        go_enter Try.func28, Try.ntmps28
        go_wp2
        go_ret2
        exact read2_err _ _ _ (by repeat (first | (with_reducible first | exact Ext.refl _ | assumption | apply Ext.alloc | apply Ext.ext | apply Ext.drew | refine Ext.setCell ?_ ?_ _) | (focus (simp [go_sem]; done))))
      · have e : streamE ky ctr l = (stream ky ctr l, 0) := by unfold streamE; rw [if_neg (by rw [hk.len]; simp), if_neg (by rw [hcv.len]; simp), if_neg (by rw [hl.len]; exact h3)]
        rw [e]
        show Calls _ _ _ _ (Read2 (stream ky ctr l).length _ _ _)
        rw [show (stream ky ctr l).length = n by rw [stream_length, hl.len]]
        exact stream_any a b c ca cb cc n ky ctr l w hk hca hcv hcb hl (by omega)
    · have e : streamE ky ctr l = ([], 3) := by unfold streamE; rw [if_neg (by rw [hk.len]; simp), if_pos (by rw [hcv.len]; exact h2)]
      rw [e]
      have hI := ne16 h2
      clear h2 e
      go_enter Try.func28, Try.ntmps28
      go_wp2
      go_ret2
      exact read2_err _ _ _ (by repeat (first | (with_reducible first | exact Ext.refl _ | assumption | apply Ext.alloc | apply Ext.ext | apply Ext.drew | refine Ext.setCell ?_ ?_ _) | (focus (simp [go_sem]; done))))
  · have e : streamE ky ctr l = ([], 5) := by unfold streamE; rw [if_pos (by rw [hk.len]; exact h1)]
    rw [e]
    have hI := ne16 h1
    clear h1 e
    go_enter Try.func28, Try.ntmps28
    go_wp2
    go_ret2
    exact read2_err _ _ _ (by repeat (first | (with_reducible first | exact Ext.refl _ | assumption | apply Ext.alloc | apply Ext.ext | apply Ext.drew | refine Ext.setCell ?_ ?_ _) | (focus (simp [go_sem]; done))))

theorem rstream_full (a b c : Option Addr) (na ca nb cb n cc : Nat) (ky ctr l : List UInt8) (w : World) (hk : Sl w a na ky) (hcv : Sl w b nb ctr) (hcb : nb ≤ cb) (hl : Sl w c n l) :
    Calls Try.prog 33 #[.slice a na ca, .slice b nb cb, .slice c n cc] w (Read2 (streamE ky ctr l).1.length (streamE ky ctr l).1 (.int .i64 (streamE ky ctr l).2) w) := by
  by_cases h1 : na = 16
  · subst h1
    by_cases h2 : nb = 16
    · subst h2
      by_cases h3 : 65535 < n
      · have e : streamE ky ctr l = ([], 2) := by unfold streamE; rw [if_neg (by rw [hk.len]; simp), if_neg (by rw [hcv.len]; simp), if_pos (by rw [hl.len]; exact h3)]
        rw [e]
        have hI : (65535 : Int) < (n : Int) := by omega
        clear h3 e
        go_enter Try.func33, Try.ntmps33
        go_wp2
        go_ret2
        exact read2_err _ _ _ (by repeat (first | (with_reducible first | exact Ext.refl _ | assumption | apply Ext.alloc | apply Ext.ext | apply Ext.drew | refine Ext.setCell ?_ ?_ _) | (focus (simp [go_sem]; done))))
      · have e : streamE ky ctr l = (stream ky ctr l, 0) := by unfold streamE; rw [if_neg (by rw [hk.len]; simp), if_neg (by rw [hcv.len]; simp), if_neg (by rw [hl.len]; exact h3)]
        rw [e]
        show Calls _ _ _ _ (Read2 (stream ky ctr l).length _ _ _)
        rw [show (stream ky ctr l).length = n by rw [stream_length, hl.len]]
        exact rstream_any a b c ca cb cc n ky ctr l w hk hcv hcb hl (by omega)
    · have e : streamE ky ctr l = ([], 3) := by unfold streamE; rw [if_neg (by rw [hk.len]; simp), if_pos (by rw [hcv.len]; exact h2)]
      rw [e]
      have hI := ne16 h2
      clear h2 e
      go_enter Try.func33, Try.ntmps33
      go_wp2
      go_ret2
      exact read2_err _ _ _ (by repeat (first | (with_reducible first | exact Ext.refl _ | assumption | apply Ext.alloc | apply Ext.ext | apply Ext.drew | refine Ext.setCell ?_ ?_ _) | (focus (simp [go_sem]; done))))
  · have e : streamE ky ctr l = ([], 5) := by unfold streamE; rw [if_pos (by rw [hk.len]; exact h1)]
    rw [e]
    have hI := ne16 h1
    clear h1 e
    go_enter Try.func33, Try.ntmps33
    go_wp2
    go_ret2
    exact read2_err _ _ _ (by repeat (first | (with_reducible first | exact Ext.refl _ | assumption | apply Ext.alloc | apply Ext.ext | apply Ext.drew | refine Ext.setCell ?_ ?_ _) | (focus (simp [go_sem]; done))))

set_option maxRecDepth 100000 in
set_option maxHeartbeats 4000000 in
theorem rblock_full (a b : Option Addr) (na ca nb cb : Nat) (ky l : List UInt8) (w : World) (hk : Sl w a na ky) (hl : Sl w b nb l) (hcb : nb ≤ cb) :
    Calls Try.prog 32 #[.slice a na ca, .slice b nb cb] w (Read2 (blockE ky l).1.length (blockE ky l).1 (.int .i64 (blockE ky l).2) w) := by
  by_cases h1 : na = 16
  · subst h1
    by_cases h2 : nb = 16
    · subst h2
      have e : blockE ky l = (block ky l, 0) := by unfold blockE; rw [if_neg (by rw [hk.len]; simp), if_neg (by rw [hl.len]; simp)]
      rw [e]
      show Calls _ _ _ _ (Read2 (block ky l).length _ _ _)
      rw [show (block ky l).length = 16 from enc_length _ _]
      have hE := Lib.hid (show block ky l = enc (expand ky) l from rfl)
      have hks : (expand ky).length = 176 := words_length ky 40 hk.len
      have hp := fun w h => prepare_any a ca ky w h
      have hen := fun a c l w h hc => renc_any a c (expand ky) l hks w h hc
      generalize pre (expand ky) = pk at *
      generalize expand ky = ks at *
      go_enter Try.func32, Try.ntmps32
      go_wp2_with (first
        | (go_at_call 67; (with_reducible refine (hp ?_ ?hq5).mono ?_); (case hq5 => (repeat' (first | with_reducible assumption | (with_reducible exact zeros16 _) | (with_reducible exact sl_new1 _ _ _) | (with_reducible first | apply Sl.upE | apply Sl.upA | apply Sl.upD)))); rintro e w1 ⟨rfl, hxq⟩; obtain ⟨xq, rfl⟩ := hxq.out; clear hxq)
        | (go_at_call 68; (with_reducible refine (hen ?_ ?_ ?_ ?_ ?hq3 ?hq4).mono ?_); (case hq3 => (repeat' (first | with_reducible assumption | (with_reducible exact zeros16 _) | (with_reducible exact sl_new1 _ _ _) | (with_reducible first | apply Sl.upE | apply Sl.upA | apply Sl.upD)))); (case hq4 => omega); rintro e _ ⟨_, _, rfl, hO, hx⟩; obtain ⟨_, rfl⟩ := hx.out; clear hx; have := Own.le hO; have := Own.sl hO)
        | fail)
      go_ret2
      exact ⟨_, _, rfl, by rw [hE.out]; assumption, by omega, (by repeat (first | (with_reducible first | exact Ext.refl _ | assumption | apply Ext.alloc | apply Ext.ext | apply Ext.drew | refine Ext.setCell ?_ ?_ _) | (focus (simp [go_sem]; done))))⟩
    · have e : blockE ky l = ([], 3) := by unfold blockE; rw [if_neg (by rw [hk.len]; simp), if_pos (by rw [hl.len]; exact h2)]
      rw [e]
      have hI := ne16 h2
      clear h2 e
      go_enter Try.func32, Try.ntmps32
      go_wp2
      go_ret2
      exact read2_err _ _ _ (Ext.refl _)
  · have e : blockE ky l = ([], 5) := by unfold blockE; rw [if_pos (by rw [hk.len]; exact h1)]
    rw [e]
    have hI := ne16 h1
    clear h1 e
    go_enter Try.func32, Try.ntmps32
    go_wp2
    go_ret2
    exact read2_err _ _ _ (Ext.refl _)
end Go.Proofs.Ythooaeeajeajnaa

/- Layer 4: the round keys, both ways. -/
namespace Go.Aes
theorem rkeys_snoc (ks : List UInt8) (i : Nat) : (List.range i).map (fun i => (ks.drop (16 * i)).take 16) ++ [(ks.drop (16 * i)).take 16] = (List.range (i + 1)).map fun i => (ks.drop (16 * i)).take 16 := range_snoc _ i
theorem pre_part (ks : List UInt8) (h : ks.length = 176) (q : Nat) (hq : q < 11) : ((pre ks).drop (16 * q)).take 16 = (ks.drop (16 * q)).take 16 := by
  unfold pre
  rw [List.drop_append_of_le_length (by omega), List.take_append_of_le_length (by simp; omega)]
end Go.Aes
namespace Go.Proofs.Ythooaeeajeajnaa
open Go.RowKit Go.Sec Go.Oct Go.Aes BigFrame
theorem info22 : (Try.prog.info? 22).map (fun i => (i.zero, i.size, i.bytes)) = some (some (.slice none 0 0), 1, 24) := by kernel_rfl
theorem V8 : S8 Try.prog := ⟨Try.underlying40, info_parts info22⟩
theorem RK : RowT Try.prog 78 176 := ⟨⟨_, Try.underlying78, rfl⟩, by kernel_rfl, ⟨_, Try.zeroValue78, by kernel_rfl⟩⟩
def ReadB (n : Nat) (L : List (List UInt8)) (v : Value) (w : World) (e : Ending) (w' : World) : Prop :=
  ∃ a c, e = .returned (.tuple #[.slice a n c, v]) ∧ Bsc w' a n L ∧ n ≤ c ∧ Ext w w'

set_option maxRecDepth 100000 in
set_option maxHeartbeats 4000000 in
theorem keys_any (a : Option Addr) (ca : Nat) (ky : List UInt8) (w : World) (hk : Sl w a 16 ky) (hca : 16 ≤ ca) :
    Calls Try.prog 30 #[.slice a 16 ca] w (ReadB 11 (rkeys (expand ky)) (.int .i64 0) w) := by
  have hks : (expand ky).length = 176 := words_length ky 40 hk.len
  have hn := new_any a ca ky w hk hca
  generalize expand ky = ks at *
  have hksv : (ks.map u8v).length = 176 := by simpa using hks
  have hix := fun (i : Nat) (hi : i < 11) W => run_index_arr (P := Try.prog) (T := 78) (E := 60) Try.underlying78 R60 (ks.map u8v) i rfl hi W
  have hix2 := fun (i : Nat) => show List.take 16 (List.drop (i * 16) (List.map u8v ks)) = ((ks.drop (16 * i)).take 16).map u8v by rw [List.map_take, List.map_drop, Nat.mul_comm]
  have HI := Lib.hid (fun (i : Nat) (hi : i < 11) W => (hix2 i) ▸ hix i hi W)
  clear hix hix2
  go_enter Try.func30, Try.ntmps30
  go_wp2_with fail
  refine hn.mono ?_
  rintro e w1 ⟨g, rfl, hg, hB, hx1⟩
  have hR := hB.rd
  haveI := hB.blt
  go_wp2_with (first | (refine wpList_load_arr (RK) rfl _ rfl (g) (0) rfl (ks.map u8v) (hR) (hksv) ?_) | fail)
  go_loopw [4, 15] (fun v4 v15 wr => ∃ (i : Nat) (a4 : Option Addr) (c4 : Nat), i ≤ 11 ∧ v15 = .int .i64 i ∧ v4 = .slice a4 i c4 ∧ OwnB wr w.heap.size a4 i c4 ((List.range i).map fun i => (ks.drop (16 * i)).take 16) ∧ Ext w wr) (fun _ v15 _ => 11 - (intOf v15).toNat)
  case atStart => exact ⟨0, _, _, by omega, rfl, rfl, OwnB.nil _ _, hx1⟩
  case round =>
    obtain ⟨i, a4, c4, hi, rfl, rfl, hO, hx⟩ := hrel
    by_cases hlt : i < 11
    · have i0 : (0 : Int) ≤ (i : Int) := by omega
      have i1 : (i : Int) < 11 := by omega
      have hix := HI.out i hlt
      have hsn := Lib.hid (rkeys_snoc ks i)
      have hkl : ((ks.drop (16 * i)).take 16).length = 16 := by simp; omega
      generalize (ks.drop (16 * i)).take 16 = k at *
      have hle := hO.le
      have ht60 : 60 ≠ 22 := by decide
      go_wp2_with (first
        | (refine wpList_alloc_store (R60) rfl rfl _ _ rfl rfl rfl rfl (by simp [Act.put]) (k.map u8v) rfl (by simp) ((by simpa using hkl)) (one_u8 _) ?_; intro x hBk _)
        | (at_builtin; refine wpList_append_one V8 rfl (.tmp 18) (.tmp 20) rfl w.heap.size a4 i c4 _ rfl (wr.ext x).heap.size rfl ((hO.ext (Ext.of_ext _ _)).ext (Ext.of_alloc _ _)) _ 16 16 k (Blk.rd (Blk.new _ _ _)) ((hBk.alloc _).sl hkl) (Nat.le_refl _) (inBlk (hBk.alloc _) ht60) (by omega) (by simp; have := hx.size; have := hBk.lt; omega) ?_; intro sa sc w3 hO3 hg3 hB3)
        | fail)
      rw [hsn.out] at hO3
      have hx3 : Ext w w3 := Below.trans (b := (wr.ext x).alloc _) (by repeat (first | (with_reducible first | exact Ext.refl _ | assumption | apply Ext.alloc | apply Ext.ext | apply Ext.drew | refine Ext.setCell ?_ ?_ _) | (focus (simp [go_sem]; done)))) hB3
      go_roundw
      case rel => exact ⟨i + 1, _, _, by omega, by go_num, rfl, hO3, hx3⟩
      case measure => simp [intOf]; omega
    · obtain rfl : i = 11 := (by omega); (try simp only [Nat.reduceAdd, Nat.reduceMul, Nat.reduceDiv, Nat.reduceSub, Int.cast_ofNat_Int])
      go_wp2
      go_ret2
      exact ⟨_, _, rfl, hO.bsc, hO.le, hx⟩

set_option maxRecDepth 100000 in
set_option maxHeartbeats 4000000 in
theorem rkeys_any (a : Option Addr) (ca : Nat) (ky : List UInt8) (w : World) (hk : Sl w a 16 ky) :
    Calls Try.prog 31 #[.slice a 16 ca] w (ReadB 11 (rkeys (expand ky)) (.int .i64 0) w) := by
  have hks : (expand ky).length = 176 := words_length ky 40 hk.len
  have hp := fun w h => prepare_any a ca ky w h
  have hpl := pre_length (expand ky) (by omega)
  have hpk := Lib.hid (fun q h => pre_part (expand ky) hks q h)
  generalize pre (expand ky) = pk at *
  generalize expand ky = ks at *
  go_enter Try.func31, Try.ntmps31
  go_wp2_with (first
    | (go_at_call 67; (with_reducible refine (hp ?_ ?hq6).mono ?_); (case hq6 => (repeat' (first | with_reducible assumption | (with_reducible exact zeros16 _) | (with_reducible exact sl_new1 _ _ _) | (with_reducible first | apply Sl.upE | apply Sl.upA | apply Sl.upD)))); rintro e w1 ⟨rfl, hxq⟩; obtain ⟨xq, rfl⟩ := hxq.out; clear hxq)
    | (refine wpList_alloc_store (R84) rfl rfl _ _ rfl rfl rfl rfl (by simp [Act.put]) (pk.map u8v) rfl (by simp) ((by simpa using hpl)) (one_u8 _) ?_; intro x2 hBx _)
    | fail)
  obtain ⟨gm, hgm⟩ : ∃ gm, Hid (gm = (w.ext xq).heap.size) := ⟨_, Lib.hid rfl⟩
  rw [← hgm.out] at hBx ⊢
  have hxx : Ext w ((w.ext xq).ext x2) := (by repeat (first | (with_reducible first | exact Ext.refl _ | assumption | apply Ext.alloc | apply Ext.ext | apply Ext.drew | refine Ext.setCell ?_ ?_ _) | (focus (simp [go_sem]; done))))
  have hgw : w.heap.size ≤ gm := by rw [hgm.out]; exact (Ext.of_ext w xq).size
  go_loopw [5, 6] (fun v5 v6 wr => ∃ (q i : Nat) (a5 : Option Addr) (c5 : Nat), q ≤ 11 ∧ v6 = .int .i64 i ∧ Hid (i = 16 * q) ∧ v5 = .slice a5 q c5 ∧ OwnB wr (gm + 1) a5 q c5 ((List.range q).map fun i => (ks.drop (16 * i)).take 16) ∧ Blk wr gm 84 (pk.map u8v) ∧ Ext w wr) (fun _ v6 _ => 176 - (intOf v6).toNat)
  case atStart => exact ⟨0, 0, _, _, by omega, rfl, Lib.hid rfl, rfl, OwnB.nil _ _, hBx, hxx⟩
  case round =>
    clear hBx hxx
    obtain ⟨q, i, a5, c5, hq, rfl, hiq, rfl, hO, hB, hx⟩ := hrel
    have hle := hO.le
    by_cases hlt : q < 11
    · have i0 : (0 : Int) ≤ (i : Int) := by omega
      have i1 : (i : Int) < 176 := by have := hiq.out; omega
      have i2 : (i : Int) + 16 ≤ 176 := by have := hiq.out; omega
      have hsl := fun W => run_slice_arr (P := Try.prog) (T := 81) (E := 5) Try.underlying81 (by kernel_rfl) gm 0 i (i + 16) rfl (show (i : Int) + 16 = ((i + 16 : Nat) : Int) by omega) (by omega) (by omega) (by omega) W
      rw [Nat.zero_add, Nat.add_sub_cancel_left] at hsl
      have hS : Sl wr (some ⟨gm, i, none⟩) 16 ((ks.drop (16 * q)).take 16) := by
        rw [← hpk.out q hlt, ← hiq.out]
        have h1 := (hB.rdAt i).head 16
        rw [← List.map_drop, ← List.map_take] at h1
        exact ⟨by simp; omega, h1⟩
      have hsn := Lib.hid (rkeys_snoc ks q)
      generalize (ks.drop (16 * q)).take 16 = k at *
      have hxw := hx
      have hgl := hB.lt
      go_wp2_with (first
        | (at_builtin; refine wpList_append_by U rfl (.tmp 17) (.tmp 22) rfl wr.heap.size _ 0 0 [] rfl _ 16 _ k rfl (own_empty _) (hS.ext (Ext.of_alloc _ _)) (by omega) (by simp) ?_; intro sa2 sc2 w2 hO2 hg2 hB2; (simp only [Nat.zero_add, List.nil_append] at hO2 ⊢); have hx2 : Ext wr w2 := Below.trans (b := wr.alloc _) (Ext.of_alloc _ _) hB2; have hle2 := hO2.le)
        | (at_builtin; refine wpList_append_one V8 rfl (.tmp 16) (.tmp 24) rfl (gm + 1) a5 q c5 _ rfl w2.heap.size rfl ((hO.ext hx2).ext (Ext.of_alloc _ _)) _ 16 sc2 k (Blk.rd (Blk.new _ _ _)) ((hO2.ext (Ext.of_alloc _ _)).sl) hle2.1 ((hO2.ext (Ext.of_alloc _ _)).inBlk) (by omega) (by simp; have := hx2.size; omega) ?_; intro sa sc w3 hO3 hg3 hB3)
        | fail)
      rw [hsn.out] at hO3
      have hB4 : Blk w3 gm 84 (pk.map u8v) := (hB3.block gm (by omega)).trans ((hB.extB hx2).alloc _)
      have hx3 : Ext w w3 := Below.trans ((hxw.trans hx2).alloc _) (hB3.mono (by omega))
      go_roundw
      case rel => exact ⟨q + 1, i + 16, _, _, by omega, by go_num, Lib.hid (by rw [hiq.out]; omega), rfl, hO3, hB4, hx3⟩
      case measure => simp [intOf]; have := hiq.out; omega
    · have i1 : ¬ (i : Int) < 176 := by have := hiq.out; omega
      obtain rfl : q = 11 := (by omega); (try simp only [Nat.reduceAdd, Nat.reduceMul, Nat.reduceDiv, Nat.reduceSub, Int.cast_ofNat_Int])
      go_wp2
      go_ret2
      exact ⟨_, _, rfl, hO.bsc, hO.le, hx⟩
end Go.Proofs.Ythooaeeajeajnaa

/- CipherActs: the law's walk. -/
namespace Go.Proofs.Ythooaeeajeajnaa
open Go.RowKit Go.Sec Go.Oct Go.Aes BigFrame

theorem readB_err (v : Value) (w w' : World) (hx : Ext w w') : ReadB 0 [] v w (.returned (.tuple #[.slice none 0 0, v])) w' := ⟨_, _, rfl, Bsc.nil _ _, Nat.le_refl _, hx⟩
theorem rkeys_length (ks : List UInt8) : (rkeys ks).length = 11 := by simp [rkeys]
theorem keys_full (a : Option Addr) (n ca : Nat) (ky : List UInt8) (w : World) (hk : Sl w a n ky) (hca : n ≤ ca) :
    Calls Try.prog 30 #[.slice a n ca] w (ReadB (keysE ky).1.length (keysE ky).1 (.int .i64 (keysE ky).2) w) := by
  by_cases h1 : n = 16
  · subst h1
    have e : keysE ky = (rkeys (expand ky), 0) := by unfold keysE; rw [if_neg (by rw [hk.len]; simp)]
    rw [e]
    show Calls _ _ _ _ (ReadB (rkeys (expand ky)).length _ _ _)
    rw [rkeys_length]
    exact keys_any a ca ky w hk hca
  · have e : keysE ky = ([], 5) := by unfold keysE; rw [if_pos (by rw [hk.len]; exact h1)]
    rw [e]
    have hI := ne16 h1
    clear h1 e
    go_enter Try.func30, Try.ntmps30
    go_wp2
    go_ret2
    exact readB_err _ _ _ (Ext.refl _)
theorem rkeys_full (a : Option Addr) (n ca : Nat) (ky : List UInt8) (w : World) (hk : Sl w a n ky) :
    Calls Try.prog 31 #[.slice a n ca] w (ReadB (keysE ky).1.length (keysE ky).1 (.int .i64 (keysE ky).2) w) := by
  by_cases h1 : n = 16
  · subst h1
    have e : keysE ky = (rkeys (expand ky), 0) := by unfold keysE; rw [if_neg (by rw [hk.len]; simp)]
    rw [e]
    show Calls _ _ _ _ (ReadB (rkeys (expand ky)).length _ _ _)
    rw [rkeys_length]
    exact rkeys_any a ca ky w hk
  · have e : keysE ky = ([], 5) := by unfold keysE; rw [if_pos (by rw [hk.len]; exact h1)]
    rw [e]
    have hI := ne16 h1
    clear h1 e
    go_enter Try.func31, Try.ntmps31
    go_wp2
    go_ret2
    exact readB_err _ _ _ (Ext.refl _)
theorem sameLists_c (a b : Option Addr) (n c m d : Nat) (L K : List (List UInt8)) (w : World) (h1 : Bsc w a n L) (h2 : Bsc w b m K) (hn : n ≤ 1000000) :
    Calls Try.prog 34 #[.slice a n c, .slice b m d] w fun e w' => e = .returned (.bool (L == K)) ∧ Ext w w' := sameLists_any a b n c m d L K w h1.bss h2.bss hn
theorem keysE_le (ky : List UInt8) : (keysE ky).1.length ≤ 1000000 := by
  unfold keysE
  split <;> simp [rkeys]

set_option maxRecDepth 100000 in
set_option maxHeartbeats 4000000 in
theorem cipherActs_walk (a0 a1 a2 : Option Addr) (len0 cap0 len1 cap1 len2 cap2 : Nat) (z0 z1 z2 : List Int) (w : World) (w0 : IsRow .u8 w a0 len0 cap0 z0) (w1 : IsRow .u8 w a1 len1 cap1 z1) (w2 : IsRow .u8 w a2 len2 cap2 z2) :
    Calls Try.prog 8 #[.slice a0 len0 cap0, .slice a1 len1 cap1, .slice a2 len2 cap2] w fun e w' => e = .returned (.bool true) ∧ Ext w w' := by
  obtain ⟨hk, hk'⟩ := sl_of_row w0
  obtain ⟨hi, hi'⟩ := sl_of_row w1
  obtain ⟨hb, hb'⟩ := sl_of_row w2
  generalize rowL z0 len0 = ky at *
  generalize rowL z1 len1 = l at *
  generalize rowL z2 len2 = b at *
  clear w0 w1 w2
  have hcs : (40 : Int) < (len0 : Int) ∨ (¬ (40 : Int) < (len0 : Int) ∧ (40 : Int) < (len1 : Int)) ∨ (¬ (40 : Int) < (len0 : Int) ∧ ¬ (40 : Int) < (len1 : Int) ∧ (100 : Int) < (len2 : Int)) ∨ (¬ (40 : Int) < (len0 : Int) ∧ ¬ (40 : Int) < (len1 : Int) ∧ ¬ (100 : Int) < (len2 : Int)) := by omega
  rcases hcs with h0 | ⟨h0, h1⟩ | ⟨h0, h1, h2⟩ | ⟨h0, h1, h2⟩
  · go_enter Try.func8, Try.ntmps8
    go_wp2_with (go_at_call 20; refine (known4_any _).mono ?_; rintro e w1 ⟨rfl, hxq⟩; obtain ⟨xq, rfl⟩ := hxq.out; clear hxq)
    go_returns
    exact ⟨rfl, (by repeat (first | (with_reducible first | exact Ext.refl _ | assumption | apply Ext.alloc | apply Ext.ext | apply Ext.drew | refine Ext.setCell ?_ ?_ _) | (focus (simp [go_sem]; done))))⟩
  · go_enter Try.func8, Try.ntmps8
    go_wp2_with (go_at_call 20; refine (known4_any _).mono ?_; rintro e w1 ⟨rfl, hxq⟩; obtain ⟨xq, rfl⟩ := hxq.out; clear hxq)
    go_returns
    exact ⟨rfl, (by repeat (first | (with_reducible first | exact Ext.refl _ | assumption | apply Ext.alloc | apply Ext.ext | apply Ext.drew | refine Ext.setCell ?_ ?_ _) | (focus (simp [go_sem]; done))))⟩
  · go_enter Try.func8, Try.ntmps8
    go_wp2_with (go_at_call 20; refine (known4_any _).mono ?_; rintro e w1 ⟨rfl, hxq⟩; obtain ⟨xq, rfl⟩ := hxq.out; clear hxq)
    go_returns
    exact ⟨rfl, (by repeat (first | (with_reducible first | exact Ext.refl _ | assumption | apply Ext.alloc | apply Ext.ext | apply Ext.drew | refine Ext.setCell ?_ ?_ _) | (focus (simp [go_sem]; done))))⟩
  · have f1 := fun a n ca w h h' => keys_full a n ca ky w h h'
    have f2 := fun a n ca w h => rkeys_full a n ca ky w h
    have f3 := fun a b na ca nb cb w hk hl hca => block_full a b na ca nb cb ky l w hk hl hca
    have f4 := fun a b na ca nb cb w hk hl hcb => rblock_full a b na ca nb cb ky l w hk hl hcb
    have f5 := fun a b' c na ca nb cb n cc w h1 h2 h3 h4 h5 => stream_full a b' c na ca nb cb n cc ky l b w h1 h2 h3 h4 h5
    have f6 := fun a b' c na ca nb cb n cc w h1 h2 h3 h4 => rstream_full a b' c na ca nb cb n cc ky l b w h1 h2 h3 h4
    have hkl := keysE_le ky
    generalize (keysE ky).2 = e1 at *
    generalize (keysE ky).1 = L1 at *
    generalize (blockE ky l).2 = e2 at *
    generalize (blockE ky l).1 = L2 at *
    generalize (streamE ky l b).2 = e3 at *
    generalize (streamE ky l b).1 = L3 at *
    go_enter Try.func8, Try.ntmps8
    go_wp2_with (first
      | (go_at_call 30; (with_reducible refine (f1 ?_ ?_ ?_ ?_ ?hq9 ?hq10).mono ?_); (case hq9 => (repeat' (first | with_reducible assumption | (with_reducible exact zeros16 _) | (with_reducible exact sl_new1 _ _ _) | (with_reducible first | apply Sl.upE | apply Sl.upA | apply Sl.upD)))); (case hq10 => omega); rintro e _ ⟨_, _, rfl, hS, hc, hx⟩; obtain ⟨_, rfl⟩ := hx.out; clear hx)
      | (go_at_call 31; (with_reducible refine (f2 ?_ ?_ ?_ ?_ ?hq11).mono ?_); (case hq11 => (repeat' (first | with_reducible assumption | (with_reducible exact zeros16 _) | (with_reducible exact sl_new1 _ _ _) | (with_reducible first | apply Sl.upE | apply Sl.upA | apply Sl.upD)))); rintro e _ ⟨_, _, rfl, hS, hc, hx⟩; obtain ⟨_, rfl⟩ := hx.out; clear hx)
      | (go_at_call 18; (with_reducible refine (f3 ?_ ?_ ?_ ?_ ?_ ?_ ?_ ?hq12 ?hq13 ?hq14).mono ?_); (case hq12 => (repeat' (first | with_reducible assumption | (with_reducible exact zeros16 _) | (with_reducible exact sl_new1 _ _ _) | (with_reducible first | apply Sl.upE | apply Sl.upA | apply Sl.upD)))); (case hq13 => (repeat' (first | with_reducible assumption | (with_reducible exact zeros16 _) | (with_reducible exact sl_new1 _ _ _) | (with_reducible first | apply Sl.upE | apply Sl.upA | apply Sl.upD)))); (case hq14 => omega); rintro e _ ⟨_, _, rfl, hS, hc, hx⟩; obtain ⟨_, rfl⟩ := hx.out; clear hx)
      | (go_at_call 32; (with_reducible refine (f4 ?_ ?_ ?_ ?_ ?_ ?_ ?_ ?hq15 ?hq16 ?hq17).mono ?_); (case hq15 => (repeat' (first | with_reducible assumption | (with_reducible exact zeros16 _) | (with_reducible exact sl_new1 _ _ _) | (with_reducible first | apply Sl.upE | apply Sl.upA | apply Sl.upD)))); (case hq16 => (repeat' (first | with_reducible assumption | (with_reducible exact zeros16 _) | (with_reducible exact sl_new1 _ _ _) | (with_reducible first | apply Sl.upE | apply Sl.upA | apply Sl.upD)))); (case hq17 => omega); rintro e _ ⟨_, _, rfl, hS, hc, hx⟩; obtain ⟨_, rfl⟩ := hx.out; clear hx)
      | (go_at_call 28; (with_reducible refine (f5 ?_ ?_ ?_ ?_ ?_ ?_ ?_ ?_ ?_ ?_ ?hq18 ?hq19 ?hq20 ?hq21 ?hq22).mono ?_); (case hq18 => (repeat' (first | with_reducible assumption | (with_reducible exact zeros16 _) | (with_reducible exact sl_new1 _ _ _) | (with_reducible first | apply Sl.upE | apply Sl.upA | apply Sl.upD)))); (case hq20 => (repeat' (first | with_reducible assumption | (with_reducible exact zeros16 _) | (with_reducible exact sl_new1 _ _ _) | (with_reducible first | apply Sl.upE | apply Sl.upA | apply Sl.upD)))); (case hq22 => (repeat' (first | with_reducible assumption | (with_reducible exact zeros16 _) | (with_reducible exact sl_new1 _ _ _) | (with_reducible first | apply Sl.upE | apply Sl.upA | apply Sl.upD)))); (case hq19 => omega); (case hq21 => omega); rintro e _ ⟨_, _, rfl, hS, hc, hx⟩; obtain ⟨_, rfl⟩ := hx.out; clear hx)
      | (go_at_call 33; (with_reducible refine (f6 ?_ ?_ ?_ ?_ ?_ ?_ ?_ ?_ ?_ ?_ ?hq23 ?hq24 ?hq25 ?hq26).mono ?_); (case hq23 => (repeat' (first | with_reducible assumption | (with_reducible exact zeros16 _) | (with_reducible exact sl_new1 _ _ _) | (with_reducible first | apply Sl.upE | apply Sl.upA | apply Sl.upD)))); (case hq24 => (repeat' (first | with_reducible assumption | (with_reducible exact zeros16 _) | (with_reducible exact sl_new1 _ _ _) | (with_reducible first | apply Sl.upE | apply Sl.upA | apply Sl.upD)))); (case hq26 => (repeat' (first | with_reducible assumption | (with_reducible exact zeros16 _) | (with_reducible exact sl_new1 _ _ _) | (with_reducible first | apply Sl.upE | apply Sl.upA | apply Sl.upD)))); (case hq25 => omega); rintro e _ ⟨_, _, rfl, hS, hc, hx⟩; obtain ⟨_, rfl⟩ := hx.out; clear hx)
      | (go_at_call 29; (with_reducible refine (next_full ?_ ?_ ?_ l ?_ ?hq7).mono ?_); (case hq7 => (repeat' (first | with_reducible assumption | (with_reducible exact zeros16 _) | (with_reducible exact sl_new1 _ _ _) | (with_reducible first | apply Sl.upE | apply Sl.upA | apply Sl.upD)))); rintro e _ ⟨_, _, rfl, hO, hx⟩; obtain ⟨_, rfl⟩ := hx.out; clear hx; have := Own.le hO; have := Own.sl hO)
      | (go_at_call 35; (with_reducible refine (rnext_full ?_ ?_ ?_ l ?_ ?hq8).mono ?_); (case hq8 => (repeat' (first | with_reducible assumption | (with_reducible exact zeros16 _) | (with_reducible exact sl_new1 _ _ _) | (with_reducible first | apply Sl.upE | apply Sl.upA | apply Sl.upD)))); rintro e _ ⟨_, _, rfl, hO, hx⟩; obtain ⟨_, rfl⟩ := hx.out; clear hx; have := Own.le hO; have := Own.sl hO)
      | (go_at_call 20; refine (known4_any _).mono ?_; rintro e w1 ⟨rfl, hxq⟩; obtain ⟨xq, rfl⟩ := hxq.out; clear hxq)
      | (go_at_call 34; (with_reducible refine (sameLists_c ?_ ?_ ?_ ?_ ?_ ?_ ?_ ?_ ?_ ?hq27 ?hq28 ?hq29).mono ?_); (case hq27 => (repeat' (first | with_reducible assumption | (refine bsc2 ?_ ?_ ?_ ?_ _; (· (repeat' (first | with_reducible assumption | (with_reducible exact zeros16 _) | (with_reducible exact sl_new1 _ _ _) | (with_reducible first | apply Sl.upE | apply Sl.upA | apply Sl.upD)))); (· omega); (· (repeat' (first | with_reducible assumption | (with_reducible exact zeros16 _) | (with_reducible exact sl_new1 _ _ _) | (with_reducible first | apply Sl.upE | apply Sl.upA | apply Sl.upD)))); (· omega)) | (with_reducible first | apply Bsc.upE | apply Bsc.upA | apply Bsc.upD)))); (case hq28 => (repeat' (first | with_reducible assumption | (refine bsc2 ?_ ?_ ?_ ?_ _; (· (repeat' (first | with_reducible assumption | (with_reducible exact zeros16 _) | (with_reducible exact sl_new1 _ _ _) | (with_reducible first | apply Sl.upE | apply Sl.upA | apply Sl.upD)))); (· omega); (· (repeat' (first | with_reducible assumption | (with_reducible exact zeros16 _) | (with_reducible exact sl_new1 _ _ _) | (with_reducible first | apply Sl.upE | apply Sl.upA | apply Sl.upD)))); (· omega)) | (with_reducible first | apply Bsc.upE | apply Bsc.upA | apply Bsc.upD)))); (case hq29 => omega); rintro e w1 ⟨rfl, hxq⟩; obtain ⟨xq, rfl⟩ := hxq.out; clear hxq)
      | (go_at_call 21; (with_reducible refine (same_any ?_ ?_ ?_ ?_ ?_ ?_ ?_ ?_ ?_ ?hq30 ?hq31).mono ?_); (case hq30 => (repeat' (first | with_reducible assumption | (with_reducible exact zeros16 _) | (with_reducible exact sl_new1 _ _ _) | (with_reducible first | apply Sl.upE | apply Sl.upA | apply Sl.upD)))); (case hq31 => (repeat' (first | with_reducible assumption | (with_reducible exact zeros16 _) | (with_reducible exact sl_new1 _ _ _) | (with_reducible first | apply Sl.upE | apply Sl.upA | apply Sl.upD)))); rintro e w1 ⟨rfl, hxq⟩; obtain ⟨xq, rfl⟩ := hxq.out; clear hxq)
      | fail)
    go_returns
    exact ⟨rfl, (by repeat (first | (with_reducible first | exact Ext.refl _ | assumption | apply Ext.alloc | apply Ext.ext | apply Ext.drew | refine Ext.setCell ?_ ?_ _) | (focus (simp [go_sem]; done))))⟩
end Go.Proofs.Ythooaeeajeajnaa
