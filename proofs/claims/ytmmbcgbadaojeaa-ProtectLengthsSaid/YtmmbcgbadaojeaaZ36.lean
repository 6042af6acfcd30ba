/- Lemmas of this claim, several texts joined. -/
import Derived.Test.YtmmbcgbadaojeaaZ31
import Derived.Test.YtmmbcgbadaojeaaZ35
set_option linter.unusedVariables false
set_option linter.unusedSimpArgs false
/- sectimeref18.total, Length. -/
namespace Go.Proofs.Ytmmbcgbadaojeaa
open Go.RowKit Go.Sec Go.Oct Go.Pkt Go.Aes BigFrame

theorem sumL_le {l : List Int} (h : ∀ x ∈ l, 0 ≤ x ∧ x ≤ 1280) : sumL l ≤ l.length * 1284 := by
  induction l with
  | nil => simp [sumL]
  | cons x l ih =>
    have h1 := h x (List.mem_cons_self ..)
    have h2 := ih fun y hy => h y (List.mem_cons_of_mem _ hy)
    have h3 : szN x.toNat ≤ 1284 := by unfold szN; omega
    have e : sumL (x :: l) = szN x.toNat + sumL l := by simp [sumL]
    rw [e, List.length_cons]
    omega
set_option maxRecDepth 100000 in
set_option maxHeartbeats 1000000 in
theorem rtotal_any (a : Option Addr) (n c : Nat) (l : List Int) (w : World) (h : Rd w a (l.map i64v)) (hn : l.length = n) (hb : n ≤ 30) (hall : ∀ x ∈ l, 0 ≤ x ∧ x ≤ 1280) :
    Calls Try.prog 57 #[.slice a n c] w fun e w' => e = .returned (.int .i64 (sumL l : Nat)) ∧ Ext w w' := by
  have hat : ∀ W, Ext w W → ∀ k, k < n → ∃ b o x, a = some ⟨b, o, none⟩ ∧ BlkLt b W ∧ W.cell? ⟨b, o + k, none⟩ = some (.int .i64 x) ∧ l[k]? = some x := fun W hW k hk => by
    obtain ⟨b, o, h1, h2, h3⟩ := (h.ext hW).at k (by simp; omega)
    refine ⟨b, o, l[k]'(by omega), h1, h2, by simpa using h3, List.getElem?_eq_getElem _⟩
  have hts : ∀ k x, l[k]? = some x → l.take (k + 1) = l.take k ++ [x] := fun k x hx => by
    obtain ⟨hk, rfl⟩ := List.getElem?_eq_some_iff.1 hx
    exact List.take_succ_eq_append_getElem hk
  have hall := Lib.hid hall
  go_enter Try.func57, Try.ntmps57
  go_wp2_with fail
  go_loopw [3, 4] (fun v3 v4 wr => ∃ (k s : Nat), k ≤ n ∧ v4 = .int .i64 k ∧ v3 = .int .i64 s ∧ Hid (sumL (l.take k) = s) ∧ s ≤ k * 1284 ∧ Ext w wr) (fun _ v4 _ => n - (intOf v4).toNat)
  case atStart => exact ⟨0, 0, by omega, rfl, rfl, Lib.hid rfl, by omega, Ext.refl _⟩
  case round =>
    obtain ⟨k, s, hk, rfl, rfl, hs, hsb, hx⟩ := hrel
    by_cases hlt : k < n
    · obtain ⟨b0, o0, x, rfl, hb0, hc0, hxi⟩ := hat _ hx k hlt
      obtain ⟨x0, x1⟩ := hall.out x (List.mem_of_getElem? hxi)
      obtain ⟨m, rfl⟩ : ∃ m : Nat, x = (m : Int) := ⟨x.toNat, by omega⟩
      have i0 : (0 : Int) ≤ (k : Int) := by omega
      have i1 : (k : Int) < (n : Int) := by omega
      have hs2 := Lib.hid (show sumL (l.take (k + 1)) = s + max 16 ((m + 7) / 4 * 4) by rw [hts k _ hxi, sumL_snoc, hs.out]; rfl)
      have hm : m ≤ 1280 := by omega
      have hs3 : s + max 16 ((m + 7) / 4 * 4) ≤ (k + 1) * 1284 := by omega
      have hse : (s : Int) ≤ 38520 := by omega
      have hmx : max 16 (((4 : Int) + (m : Int) + 3) / 4 * 4) = ((max 16 ((m + 7) / 4 * 4) : Nat) : Int) := by omega
      clear x0 x1 hs
      haveI := hb0
      go_wp2_with fail
      go_roundw
      case rel => exact ⟨k + 1, s + max 16 ((m + 7) / 4 * 4), by omega, by go_num, congrArg _ (by omega), hs2, hs3, hx⟩
      case measure => simp [intOf]; omega
    · obtain rfl : k = n := by omega
      have HE := Lib.hid (show sumL l = s by have := hs.out; rwa [List.take_of_length_le (by omega)] at this)
      clear hs
      go_wp2_with fail
      go_ret
      exact ⟨by rw [HE.out]; rfl, hx⟩

set_option maxRecDepth 100000 in
set_option maxHeartbeats 2000000 in
theorem rlength_any (a b : Option Addr) (n c m d : Nat) (l k : List Int) (w : World) (h : Rd w a (l.map i64v)) (hn : l.length = n) (hb : n ≤ 30) (h2 : Rd w b (k.map i64v)) (hm : k.length = m) (hb2 : m ≤ 30) :
    Calls Try.prog 25 #[.slice a n c, .slice b m d] w fun e w' => e = .returned (.tuple #[.int .i64 (lenE l k).1, .int .i64 (lenE l k).2]) ∧ Ext w w' := by
  have ht1 := fun W H H2 => rtotal_any a n c l W H hn hb H2
  have ht2 := fun W H H2 => rtotal_any b m d k W H hm hb2 H2
  obtain ⟨r, hr⟩ : ∃ r, lenE l k = r := ⟨_, rfl⟩
  rw [hr]
  have hr := Lib.hid hr
  have hat : ∀ W, Ext w W → ∀ j, j < n → ∃ b o x, a = some ⟨b, o, none⟩ ∧ BlkLt b W ∧ W.cell? ⟨b, o + j, none⟩ = some (.int .i64 x) ∧ l[j]? = some x := fun W hW j hj => by
    obtain ⟨b, o, h1, h2, h3⟩ := (h.ext hW).at j (by simp; omega)
    refine ⟨b, o, l[j]'(by omega), h1, h2, by simpa using h3, List.getElem?_eq_getElem _⟩
  have hat2 : ∀ W, Ext w W → ∀ j, j < m → ∃ b' o x, b = some ⟨b', o, none⟩ ∧ BlkLt b' W ∧ W.cell? ⟨b', o + j, none⟩ = some (.int .i64 x) ∧ k[j]? = some x := fun W hW j hj => by
    obtain ⟨b, o, h1, h2, h3⟩ := (h2.ext hW).at j (by simp; omega)
    refine ⟨b, o, k[j]'(by omega), h1, h2, by simpa using h3, List.getElem?_eq_getElem _⟩
  have hts : ∀ j x, (l ++ k)[j]? = some x → (l ++ k).take (j + 1) = (l ++ k).take j ++ [x] := fun j x hx => by
    obtain ⟨hj, rfl⟩ := List.getElem?_eq_some_iff.1 hx
    exact List.take_succ_eq_append_getElem hj
  have hlk : (l ++ k).length = n + m := by rw [List.length_append, hn, hm]
  go_enter Try.func25, Try.ntmps25
  go_wp2_with fail
  go_loopw [6, 7] (fun v6 _ wr => ∃ i : Nat, i ≤ n + m ∧ v6 = .int .i64 i ∧ Hid (∀ x ∈ (l ++ k).take i, 0 ≤ x ∧ x ≤ 1280) ∧ Ext w wr) (fun v6 _ _ => n + m - (intOf v6).toNat)
  case atStart => exact ⟨0, by omega, rfl, Lib.hid (by simp), Ext.refl _⟩
  case round =>
    obtain ⟨i, hi, rfl, hal, hx⟩ := hrel
    by_cases hlt : i < n
    · obtain ⟨b0, o0, x, rfl, hb0, hc0, hxi⟩ := hat _ hx i hlt
      have hxi2 : (l ++ k)[i]? = some x := by rw [List.getElem?_append_left (by omega)]; exact hxi
      have hbad : (x < 0 ∨ 1280 < x) → badL l ∨ badL k := fun h => .inl (badL_at hxi h)
      have i0 : (0 : Int) ≤ (i : Int) := by omega
      have i1 : (i : Int) < (n : Int) := by omega
      have i2 : (i : Int) < (n : Int) + (m : Int) := by omega
      haveI := hb0
      by_cases q1 : x < 0
      · have er := Lib.hid (show r = (0, 4) by rw [← hr.out]; exact if_pos (hbad (.inl q1)))
        clear hbad
        go_wp2_with fail
        go_ret2
        rw [er.out]
        exact ⟨rfl, hx⟩
      · by_cases q2 : 1280 < x
        · have er := Lib.hid (show r = (0, 4) by rw [← hr.out]; exact if_pos (hbad (.inr q2)))
          clear hbad
          go_wp2_with fail
          go_ret2
          rw [er.out]
          exact ⟨rfl, hx⟩
        · have hm2 := Lib.hid (show ∀ y ∈ (l ++ k).take (i + 1), 0 ≤ y ∧ y ≤ 1280 by
            rw [hts i x hxi2]
            intro y hy
            rcases List.mem_append.1 hy with h | h
            · exact hal.out y h
            · rw [List.mem_singleton.1 h]; omega)
          clear hbad
          go_wp2_with fail
          go_roundw
          case rel => exact ⟨i + 1, by omega, by go_num, hm2, hx⟩
          case measure => simp [intOf]; omega
    · by_cases hlt2 : i < n + m
      · obtain ⟨j, hij⟩ : ∃ j, i = n + j := ⟨i - n, by omega⟩
        obtain ⟨b0, o0, x, rfl, hb0, hc0, hxi⟩ := hat2 _ hx j (by omega)
        have hxi2 : (l ++ k)[i]? = some x := by rw [List.getElem?_append_right (by omega), hn, hij, Nat.add_sub_cancel_left]; exact hxi
        have hbad : (x < 0 ∨ 1280 < x) → badL l ∨ badL k := fun h => .inr (badL_at hxi h)
        have i0 : ¬ (i : Int) < (n : Int) := by omega
        have i1 : (i : Int) < (n : Int) + (m : Int) := by omega
        have i2 : (i : Int) - (n : Int) = (j : Int) := by omega
        have i3 : (0 : Int) ≤ (j : Int) := by omega
        have i4 : (j : Int) < (m : Int) := by omega
        have hij := Lib.hid hij
        haveI := hb0
        by_cases q1 : x < 0
        · have er := Lib.hid (show r = (0, 4) by rw [← hr.out]; exact if_pos (hbad (.inl q1)))
          clear hbad
          go_wp2_with fail
          go_ret2
          rw [er.out]
          exact ⟨rfl, hx⟩
        · by_cases q2 : 1280 < x
          · have er := Lib.hid (show r = (0, 4) by rw [← hr.out]; exact if_pos (hbad (.inr q2)))
            clear hbad
            go_wp2_with fail
            go_ret2
            rw [er.out]
            exact ⟨rfl, hx⟩
          · have hm2 := Lib.hid (show ∀ y ∈ (l ++ k).take (i + 1), 0 ≤ y ∧ y ≤ 1280 by
              rw [hts i x hxi2]
              intro y hy
              rcases List.mem_append.1 hy with h | h
              · exact hal.out y h
              · rw [List.mem_singleton.1 h]; omega)
            clear hbad
            go_wp2_with fail
            go_roundw
            case rel => exact ⟨i + 1, by omega, by go_num, hm2, hx⟩
            case measure => simp [intOf]; omega
      · obtain rfl : i = n + m := by omega
        have i1 : ¬ ((n + m : Nat) : Int) < (n : Int) + (m : Int) := by omega
        rw [List.take_of_length_le (by omega)] at hal
        have hl1 : ∀ x ∈ l, 0 ≤ x ∧ x ≤ 1280 := fun x hx => hal.out x (List.mem_append_left _ hx)
        have hl2 : ∀ x ∈ k, 0 ≤ x ∧ x ≤ 1280 := fun x hx => hal.out x (List.mem_append_right _ hx)
        have ha1 := sumL_le hl1
        have ha2 := sumL_le hl2
        rw [hn] at ha1
        rw [hm] at ha2
        have hnb : ¬ (badL l ∨ badL k) := by
          rintro (⟨x, hx, hb⟩ | ⟨x, hx, hb⟩)
          · have := hl1 x hx; omega
          · have := hl2 x hx; omega
        have hrr := hr.out
        unfold lenE at hrr
        rw [if_neg hnb] at hrr
        replace hrr := Lib.hid hrr
        have ht1 := fun W H => ht1 W H hl1
        have ht2 := fun W H => ht2 W H hl2
        clear hl1 hl2 hal hnb hat hat2 hts
        have ha1 : sumL l ≤ 38520 := by omega
        have ha2 : sumL k ≤ 38520 := by omega
        generalize sumL l = A at *
        generalize sumL k = B at *
        go_wp2_with fail
        (with_reducible refine (ht1 wr (h.ext hx)).mono ?_)
        rintro e w1 ⟨rfl, hx1⟩
        go_wp2_with fail
        (with_reducible refine (ht2 w1 (h2.ext (hx.trans hx1))).mono ?_)
        rintro e w2 ⟨rfl, hx2⟩
        have hE := hx.trans (hx1.trans hx2)
        have iall : (48 : Int) + (A : Int) + max 16 (24 + (16 + (B : Int) + 3) / 4 * 4) = ((allN A B : Nat) : Int) := by unfold allN pad4; omega
        have hal : allN A B = 72 + A + pad4 (16 + B) := rfl
        have hp4 : pad4 (16 + B) ≤ 38540 := by unfold pad4; omega
        by_cases q1 : 1232 < A
        · have er := Lib.hid (show r = (0, 2) by rw [← hrr.out, if_pos (.inl q1)])
          have i3 : (1232 : Int) < (A : Int) := by omega
          clear q1
          go_wp2_with fail
          go_ret2
          rw [er.out]
          exact ⟨rfl, hE⟩
        · by_cases q2 : 1232 < B
          · have er := Lib.hid (show r = (0, 2) by rw [← hrr.out, if_pos (.inr (.inl q2))])
            have i3 : ¬ (1232 : Int) < (A : Int) := by omega
            have i4 : (1232 : Int) < (B : Int) := by omega
            clear q1 q2
            go_wp2_with fail
            go_ret2
            rw [er.out]
            exact ⟨rfl, hE⟩
          · have i3 : ¬ (1232 : Int) < (A : Int) := by omega
            have i4 : ¬ (1232 : Int) < (B : Int) := by omega
            by_cases q3 : 1280 < allN A B
            · have er := Lib.hid (show r = (0, 2) by rw [← hrr.out, if_pos (.inr (.inr q3))])
              have i5 : (1280 : Int) < ((allN A B : Nat) : Int) := by omega
              clear q1 q2 q3 hal
              go_wp2_with fail
              go_ret2
              rw [er.out]
              exact ⟨rfl, hE⟩
            · have er := Lib.hid (show r = (((allN A B : Nat) : Int), 0) by rw [← hrr.out, if_neg (by omega)])
              have i5 : ¬ (1280 : Int) < ((allN A B : Nat) : Int) := by omega
              clear q1 q2 q3 hal
              go_wp2_with fail
              go_ret2
              rw [er.out]
              exact ⟨rfl, hE⟩
end Go.Proofs.Ytmmbcgbadaojeaa

/- Layer 18: the law ProtectLengths. -/
namespace Go.Pkt
open Go.Oct Go.Aes Go.Sec
theorem protY_len {K N : List UInt8} (t : UInt64) (A B : List (Int × List UInt8)) (hK : K.length = 32) (hN : 16 ≤ N.length ∧ N.length ≤ 32) : (protY K N t A B).length = 48 + totN (wflds A) + (8 + pad4 N.length + pad4 (16 + totN (wflds B))) := by
  have hf := wflds_fits t A B false _ hN
  have h1 := fits_len hf
  have h3 := (protE_fits hK hf).2
  unfold protY
  rw [List.length_append]
  have h1 : (hdrB (askH t) ++ bytesF (wflds A)).length = 48 + totN (wflds A) := h1
  have h3 : (fldB (1028, guardB N (sealB K ⟨askH t, wflds A, wflds B, false⟩ N))).length = 8 + pad4 N.length + pad4 (16 + totN (wflds B)) := h3
  rw [h1, h3]
/-- The lengths of fields. -/
def lens (L : List Fld) : List Int := L.map fun f => (f.2.length : Int)
theorem sumL_lens (L : List Fld) : sumL (lens L) = totN L := by simp [sumL, totN, lens, Function.comp_def]
theorem lenE_wflds (A B : List (Int × List UInt8)) : lenE (lens (wflds A)) (lens (wflds B)) = (((72 + totN (wflds A) + pad4 (16 + totN (wflds B)) : Nat) : Int), 0) := by
  have hb : ∀ L : List (Int × List UInt8), ¬ badL (lens (wflds L)) := by
    rintro L ⟨x, hx, hb⟩
    obtain ⟨f, hf, rfl⟩ := List.mem_map.1 hx
    have := (wflds_in hf).2.2
    omega
  have h1 := wflds_tot A
  have h2 := wflds_tot B
  unfold lenE
  rw [if_neg (fun h => h.elim (hb A) (hb B)), sumL_lens, sumL_lens, if_neg]
  · rfl
  · unfold allN pad4; omega
end Go.Pkt
namespace Go.Proofs.Ytmmbcgbadaojeaa
open Go.RowKit Go.Sec Go.Oct Go.Pkt Go.Aes Go.Sha BigFrame

/-- The call's own row of ints. -/
def OwnJ (w : World) (base : Nat) (a : Option Addr) (n c : Nat) (l : List Int) : Prop := l.length = n ∧ w.ownsRow base 3 1 (.slice a n c) n (l.map i64v)
theorem OwnJ.nil (w : World) (base : Nat) : OwnJ w base none 0 0 [] := ⟨rfl, World.ownsRow_nil _ _ _ _⟩
theorem OwnJ.ext {w w' : World} {base : Nat} {a : Option Addr} {n c : Nat} {l : List Int} (h : OwnJ w base a n c l) (hx : Ext w w') : OwnJ w' base a n c l := ⟨h.1, own_ext h.2 hx⟩
theorem OwnJ.rd {w : World} {base : Nat} {a : Option Addr} {n c : Nat} {l : List Int} (h : OwnJ w base a n c l) : Rd w a (l.map i64v) := Rd.of_own h.2
theorem infoJ : (Try.prog.info? 3).map (fun i => (i.zero, i.size, i.bytes)) = some (some (.int .i64 0), 1, 8) := by kernel_rfl
theorem wpList_append_j {w : World} {ops : Array Oper} {rest : List Oper} {o : Oper} {a : Act} {Q : Exit → Act → World → Prop} (hgd : o.guard = none) (s x : Operand)
    (ho : o.op = .call { callee := .builtin .append, args := #[s, x], argTypes := #[44, 44] })
    (base : Nat) (sa0 : Option Addr) (n c0 : Nat) (l : List Int) (hs : a.eval s = .slice sa0 n c0) (g c : Nat) (z : Int) (hx : a.eval x = .slice (some ⟨g, 0, none⟩) 1 c)
    (hown : OwnJ w base sa0 n c0 l) (hR : Rd w (some ⟨g, 0, none⟩) [.int .i64 z]) (hlen : n ≤ 1000000) (hbase : base ≤ w.heap.size)
    (h : ∀ sa sc w', OwnJ w' base sa (n + 1) sc (l ++ [z]) → w.grownBy w' (Value.slice sa0 n c0).ownBlock → Below base w w' → wpList Try.prog ops Q rest (a.put o.dst (.slice sa (n + 1) sc)) w') :
    wpList Try.prog ops Q (o :: rest) a w := by
  obtain ⟨i, hi, hz, hsz, hb⟩ := info_parts infoJ
  refine wpList_append_src hgd s x 44 ho base 3 i _ 8 Try.underlying44 hi hz hsz hb rfl _ n _ hs hown.2 _ 1 c _ hx hR rfl (by simp [Value.oneCell']) (by simp only [maxLen]; omega) (by omega) hbase ?_
  intro sa sc w' h1 h2 h3
  exact h sa sc w' ⟨by rw [List.length_append, hown.1]; rfl, by rw [List.map_append]; exact h1⟩ h2 h3
set_option maxRecDepth 100000 in
set_option maxHeartbeats 1000000 in
theorem protectLengths_walk (p : Option Addr) (np cp : Nat) (q : Option Addr) (nq cq : Nat) (a : Option Addr) (n1 c1 : Nat) (b : Option Addr) (n2 c2 : Nat) (L M : List Int) (A B : List (Int × List UInt8)) (w : World) (gp : L.length = np) (hp : Rd w p (L.map i64v)) (_kp : np ≤ cp) (_wp : ∀ x ∈ L, (Lit.int .i64 x).wf = true) (gq : M.length = nq) (hq : Rd w q (M.map i64v)) (_kq : nq ≤ cq) (_wq : ∀ x ∈ M, (Lit.int .i64 x).wf = true) (h1 : Ib w a n1 A) (_k1 : n1 ≤ c1) (_w1 : ∀ x ∈ A, (Lit.int .i64 x.1).wf = true) (h2 : Ib w b n2 B) (_k2 : n2 ≤ c2) (_w2 : ∀ x ∈ B, (Lit.int .i64 x.1).wf = true) :
    Calls Try.prog 6 #[.slice p np cp, .slice q nq cq, .slice a n1 c1, .slice b n2 c2] w fun e w' => e = .returned (.bool true) ∧ Ext w w' := by
  have hk18 := fun W => known18_any W
  clear _wp _wq _w1 _w2
  by_cases q1 : 30 < np
  · have i1 : (30 : Int) < (np : Int) := by omega
    go_enter Try.func6, Try.ntmps6
    go_wp2_with (first
      | (go_at_call 23; refine (hk18 _).mono ?_; rintro e w1 ⟨rfl, hxq⟩; obtain ⟨xq, rfl⟩ := hxq.out; clear hxq)
      | fail)
    go_ret
    exact ⟨rfl, (by repeat (first | (with_reducible first | exact Ext.refl _ | assumption | apply Ext.alloc | apply Ext.ext | apply Ext.drew | refine Ext.setCell ?_ ?_ _) | (focus (simp [go_sem]; done))))⟩
  · have i1 : ¬ (30 : Int) < (np : Int) := by omega
    by_cases q2 : 30 < nq
    · have i2 : (30 : Int) < (nq : Int) := by omega
      go_enter Try.func6, Try.ntmps6
      go_wp2_with (first
        | (go_at_call 23; refine (hk18 _).mono ?_; rintro e w1 ⟨rfl, hxq⟩; obtain ⟨xq, rfl⟩ := hxq.out; clear hxq)
        | fail)
      go_ret
      exact ⟨rfl, (by repeat (first | (with_reducible first | exact Ext.refl _ | assumption | apply Ext.alloc | apply Ext.ext | apply Ext.drew | refine Ext.setCell ?_ ?_ _) | (focus (simp [go_sem]; done))))⟩
    · have i2 : ¬ (30 : Int) < (nq : Int) := by omega
      have hpl := fun W H1 H2 => plength_any p q np cp nq cq L M W H1 gp (by omega) H2 gq (by omega)
      have hrl := fun W H1 H2 => rlength_any p q np cp nq cq L M W H1 gp (by omega) H2 gq (by omega)
      generalize lenE L M = R at *
      have hask : ∀ W, Calls Try.prog 26 #[.int .u64 1] W fun e w' => e = .returned (.agg #[.int .i64 (askH 1).leap, .int .i64 (askH 1).ver, .int .i64 (askH 1).mode, .int .i64 (askH 1).strat, .int .i64 (askH 1).poll, .int .i64 (askH 1).prec, .int .u32 (n32 (askH 1).rd), .int .u32 (n32 (askH 1).rp), .int .u32 (n32 (askH 1).id), .int .u64 (n64 (askH 1).ref), .int .u64 (n64 (askH 1).org), .int .u64 (n64 (askH 1).rcv), .int .u64 (n64 (askH 1).tx)]) ∧ Ext W w' := fun W => rask_any 1 W
      have hf1 := fun W H => wfields_any a n1 c1 A W H
      have hf2 := fun W H => wfields_any b n2 c2 B W H
      have hky : ∀ W, Calls Try.prog 29 #[.int .i64 1] W (Fresh 32 (wbytes 1 32) W) := fun W => key_any 1 rfl W (by omega)
      have hKl := wbytes_length 1 32
      have hmk16 := run_make_by U 16 16 (Nat.le_refl _) (by omega)
      simp only [Int.cast_ofNat_Int] at hmk16
      have hz16 : z16.length = 16 := by decide
      have hXl := protY_len (K := wbytes 1 32) (N := z16) 1 A B hKl (by rw [hz16]; omega)
      rw [hz16] at hXl
      have hxx := lenE_wflds A B
      have hXe : (72 + totN (wflds A) + pad4 (16 + totN (wflds B))) = (protY (wbytes 1 32) z16 1 A B).length := by rw [hXl]; unfold pad4; omega
      rw [hXe] at hxx
      clear hXl hXe hz16
      have hpr := fun ak an a1 a2 ck cn d1 d2 W H1 H2 H3 H4 => protY_any ak an a1 a2 ck 16 cn d1 d2 (wbytes 1 32) z16 1 A B W H1 H2 H3 H4 (by omega)
      generalize protY (wbytes 1 32) z16 1 A B = X at *
      generalize wbytes 1 32 = K at *
      have lA := wflds_len A
      have lB := wflds_len B
      generalize wflds A = P1 at *
      generalize wflds B = P2 at *
      have hKl := Lib.hid hKl
      clear q1 q2
      go_enter Try.func6, Try.ntmps6
      go_wp2_with fail
      (with_reducible refine (hpl _ hp hq).mono ?_); rintro e w1 ⟨rfl, hx1⟩
      go_wp2_with fail
      (with_reducible refine (hrl _ (hp.ext hx1) (hq.ext hx1)).mono ?_); rintro e w2 ⟨rfl, hx2⟩
      have hE2 := hx1.trans hx2
      clear hx1 hx2 hpl hrl
      go_wp2_with fail
      (with_reducible refine (hask _).mono ?_); rintro e w3 ⟨rfl, hx3⟩
      have hE3 := hE2.trans hx3
      clear hx3 hask hE2
      go_wp2_with fail
      (with_reducible refine (hf1 _ (h1.ext hE3)).mono ?_); rintro e w4 ⟨b1, d1, rfl, hO1, hx4⟩
      have hE4 := hE3.trans hx4
      clear hE3 hf1 hx4
      go_wp2_with fail
      (with_reducible refine (hf2 _ (h2.ext hE4)).mono ?_); rintro e w5 ⟨b2, d2, rfl, hO2, hx5⟩
      have hE5 := hE4.trans hx5
      have hI1 := hO1.ib.1.ext hx5
      have hI2 := hO2.ib.1
      clear hE4 hf2 hx5 hO1 hO2
      go_wp2_with (first
        | (refine wpList_alloc_store (RP16) rfl rfl _ _ rfl rfl rfl rfl (by simp [Act.put]) ([.int .i64 (askH 1).leap, .int .i64 (askH 1).ver, .int .i64 (askH 1).mode, .int .i64 (askH 1).strat, .int .i64 (askH 1).poll, .int .i64 (askH 1).prec, .int .u32 (n32 (askH 1).rd), .int .u32 (n32 (askH 1).rp), .int .u32 (n32 (askH 1).id), .int .u64 (n64 (askH 1).ref), .int .u64 (n64 (askH 1).org), .int .u64 (n64 (askH 1).rcv), .int .u64 (n64 (askH 1).tx), .slice b1 P1.length d1, .slice b2 P2.length d2, .bool false]) rfl (by simp) (rfl) ((by simp; repeat' (first | rfl | constructor))) ?_; intro x hz _)
        | fail)
      have hx6 : Ext w5 (w5.ext x) := Ext.of_ext _ _
      have hE6 := hE5.trans hx6
      have hI1 := hI1.ext hx6
      have hI2 := hI2.ext hx6
      obtain ⟨g1, hg1⟩ : ∃ g, g = w5.heap.size := ⟨_, rfl⟩
      rw [← hg1] at hz ⊢
      clear hE5 hx6 hg1
      generalize w5.ext x = W at *
      go_loopw [14, 16] (fun v14 v16 wr => ∃ (k : Nat) (sa : Option Addr) (sc : Nat), k ≤ P1.length ∧ v16 = .int .i64 k ∧ v14 = .slice sa k sc ∧ OwnJ wr W.heap.size sa k sc ((lens P1).take k) ∧ Ext W wr) (fun _ v16 _ => P1.length - (intOf v16).toNat)
      case atStart => exact ⟨0, none, 0, by omega, rfl, rfl, OwnJ.nil _ _, Ext.refl _⟩
      case round =>
        obtain ⟨k, sa, sc, hk, rfl, rfl, hO, hx⟩ := hrel
        have hB1 := hz.extB hx
        haveI := hB1.blt
        have f13 := hB1.cell? 13 rfl
        by_cases hlt : k < P1.length
        · obtain ⟨y, hxi⟩ : ∃ y, P1[k]? = some y := ⟨_, List.getElem?_eq_getElem (by omega)⟩
          obtain ⟨b0, o0, g', c', rfl, hb0, hc0, hc1, -, -⟩ := (hI1.ext hx).at k hlt _ hxi
          have i3 : (0 : Int) ≤ (k : Int) := by omega
          have i4 : (k : Int) < ((P1.length : Nat) : Int) := by omega
          have hts := Lib.hid (show (lens P1).take (k + 1) = (lens P1).take k ++ [(y.2.length : Int)] by
            obtain ⟨h1, h2⟩ := List.getElem?_eq_some_iff.1 hxi
            rw [List.take_succ_eq_append_getElem (by simpa [lens] using h1)]
            simp [lens, h2])
          haveI := hb0
          go_wp2_with (first
            | (at_builtin; refine wpList_append_j rfl _ _ rfl _ _ k _ _ rfl _ 1 (y.2.length : Int) rfl (hO.ext (Ext.of_alloc _ _)) (Blk.new _ _ _).rd (by omega) (by simp; have := hx.size; omega) ?_; intro sa' sc' w6 hO6 hg6 hb6)
            | fail)
          have hE6 := Below.trans (hx.trans (Ext.of_alloc _ _)) hb6
          go_roundw
          case rel => exact ⟨k + 1, sa', sc', by omega, by go_num, rfl, by rw [hts.out]; exact hO6, hE6⟩
          case measure => simp [intOf]; omega
        · obtain rfl : k = P1.length := by omega
          rw [List.take_of_length_le (by simp [lens])] at hO
          have hE7 := hE6.trans hx
          have hI1 := hI1.ext hx
          have hI2 := hI2.ext hx
          have hR1 := hO.rd
          have i3 : ¬ ((P1.length : Nat) : Int) < ((P1.length : Nat) : Int) := by omega
          clear hz hE6 hx hO
          go_wp2_with fail
          clear f13
          go_loopw [15, 17] (fun v15 v17 wq => ∃ (k : Nat) (sa : Option Addr) (sc : Nat), k ≤ P2.length ∧ v17 = .int .i64 k ∧ v15 = .slice sa k sc ∧ OwnJ wq wr.heap.size sa k sc ((lens P2).take k) ∧ Ext wr wq) (fun _ v17 _ => P2.length - (intOf v17).toNat)
          case atStart => exact ⟨0, none, 0, by omega, rfl, rfl, OwnJ.nil _ _, Ext.refl _⟩
          case round =>
            obtain ⟨k, ta, tc, hk, rfl, rfl, hO, hx⟩ := hrel
            have hB1 := hB1.extB hx
            haveI := hB1.blt
            have f14 := hB1.cell? 14 rfl
            by_cases hlt : k < P2.length
            · obtain ⟨y, hxi⟩ : ∃ y, P2[k]? = some y := ⟨_, List.getElem?_eq_getElem (by omega)⟩
              obtain ⟨b0, o0, g', c', rfl, hb0, hc0, hc1, -, -⟩ := (hI2.ext hx).at k hlt _ hxi
              have i3 : (0 : Int) ≤ (k : Int) := by omega
              have i4 : (k : Int) < ((P2.length : Nat) : Int) := by omega
              have hts := Lib.hid (show (lens P2).take (k + 1) = (lens P2).take k ++ [(y.2.length : Int)] by
                obtain ⟨h1, h2⟩ := List.getElem?_eq_some_iff.1 hxi
                rw [List.take_succ_eq_append_getElem (by simpa [lens] using h1)]
                simp [lens, h2])
              haveI := hb0
              go_wp2_with (first
                | (at_builtin; refine wpList_append_j rfl _ _ rfl _ _ k _ _ rfl _ 1 (y.2.length : Int) rfl (hO.ext (Ext.of_alloc _ _)) (Blk.new _ _ _).rd (by omega) (by simp; have := hx.size; omega) ?_; intro sa' sc' w6 hO6 hg6 hb6)
                | fail)
              have hE6 := Below.trans (hx.trans (Ext.of_alloc _ _)) hb6
              go_roundw
              case rel => exact ⟨k + 1, sa', sc', by omega, by go_num, rfl, by rw [hts.out]; exact hO6, hE6⟩
              case measure => simp [intOf]; omega
            · obtain rfl : k = P2.length := by omega
              rw [List.take_of_length_le (by simp [lens])] at hO
              have hE8 := hE7.trans hx
              have hI1 := hI1.ext hx
              have hI2 := hI2.ext hx
              have hR1 := hR1.ext hx
              have hR2 := hO.rd
              have i4 : ¬ ((P2.length : Nat) : Int) < ((P2.length : Nat) : Int) := by omega
              have hpl := fun W H1 H2 => plength_any sa ta P1.length sc P2.length tc (lens P1) (lens P2) W H1 (by simp [lens]) (by omega) H2 (by simp [lens]) (by omega)
              rw [hxx] at hpl
              clear hE7 hx hO
              go_wp2_with fail
              (with_reducible refine (hpl _ hR1 hR2).mono ?_)
              rintro e w8 ⟨rfl, hx8⟩
              have hE9 := hE8.trans hx8
              have hI1 := hI1.ext hx8
              have hI2 := hI2.ext hx8
              have hB1 := hB1.extB hx8
              clear hx8 hE8 hR1 hR2 hpl hxx f14
              haveI := hB1.blt
              go_wp2_with fail
              refine wp_region_vague 8 [[], [], [], [0, 1, 2], [0, 1, 2, 3], [0, 1, 2, 3, 4], [0, 1, 2, 3, 4], [0, 1, 2, 3, 4, 5], [0, 1, 2, 3, 4, 5, 6, 7]] (by kernel_rfl) (by kernel_rfl) (by kernel_rfl) (by kernel_rfl) ?_; simp only [List.take_succ_cons, List.take_zero, List.drop_succ_cons, List.drop_zero, List.take_nil, List.drop_nil]
              (repeat (apply VD_der; (case h => (intro us w' hx hf; obtain ⟨x, rfl⟩ := hx.out; refine ⟨rfl, ?_⟩; simp [go_sem, execOp, *]; (try simp (disch := omega) only [Go.IntWalk.i64_in, Go.IntWalk.rem_in, Go.IntWalk.wrap64_in]); rfl)); (try simp only [Act.put, List.setIfInBounds_toArray, List.set_cons_succ, List.set_cons_zero])))
              (refine VD_vag (fun p => .slice (p 0).1 (32) (p 0).2) (fun p w'' => Own w'' 0 (p 0).1 (32) (p 0).2 (K)) (fun p w w' h hx => h.ext hx) (fun us w' hx hf => ⟨rfl, ?_⟩) ?_; (unfold gives; simp [go_sem, execOp]; exact vag_fresh (Nat.zero_le _) (hky _)))
              (refine VD_load_arr (RP16) _ rfl (fun _ => rfl) (g1) (0) (fun _ => by simp [go_sem]) ([.int .i64 (askH 1).leap, .int .i64 (askH 1).ver, .int .i64 (askH 1).mode, .int .i64 (askH 1).strat, .int .i64 (askH 1).poll, .int .i64 (askH 1).prec, .int .u32 (n32 (askH 1).rd), .int .u32 (n32 (askH 1).rp), .int .u32 (n32 (askH 1).id), .int .u64 (n64 (askH 1).ref), .int .u64 (n64 (askH 1).org), .int .u64 (n64 (askH 1).rcv), .int .u64 (n64 (askH 1).tx), .slice b1 P1.length d1, .slice b2 P2.length d2, .bool false]) (hB1.rd) (rfl) ?_)
              (refine VD_vag (fun p => .slice (p 0).1 (16) (16)) (fun p w'' => Sl w'' (p 0).1 (16) (z16)) (fun p w w' h hx => h.ext hx) (fun us w' hx hf => ⟨rfl, ?_⟩) ?_; (unfold gives; simp [go_sem, execOp, hmk16]; exact ⟨fun _ => (some ⟨w'.heap.size, 0, none⟩, 0), rfl, Ext.of_alloc _ _, (blk_zeros8 _ _).sl rfl⟩))
              (refine VD_vag (fun p => .tuple #[.slice (p 0).1 (X.length) (p 0).2, .int .i64 0]) (fun p w'' => Sl w'' (p 0).1 (X.length) (X) ∧ (X.length) ≤ (p 0).2) (fun p w w' h hx => ⟨h.1.ext hx, h.2⟩) (fun us w' hx hf => ⟨rfl, ?_⟩) ?_; (unfold gives; simp [go_sem, execOp]; exact vag_read (hpr _ _ b1 b2 _ _ d1 d2 _ (Own.sl (hf _ (List.mem_append_left _ (List.mem_append_right _ (List.mem_singleton_self _))) rfl)) (Own.le (hf _ (List.mem_append_left _ (List.mem_append_right _ (List.mem_singleton_self _))) rfl)).1 (hf _ (List.mem_append_right _ (List.mem_singleton_self _)) rfl) (Nat.le_refl _) (hI1.ext hx) (hI2.ext hx))))
              (repeat (apply VD_der; (case h => (intro us w' hx hf; obtain ⟨x, rfl⟩ := hx.out; refine ⟨rfl, ?_⟩; simp [go_sem, execOp, *]; (try simp (disch := omega) only [Go.IntWalk.i64_in, Go.IntWalk.rem_in, Go.IntWalk.wrap64_in]); rfl)); (try simp only [Act.put, List.setIfInBounds_toArray, List.set_cons_succ, List.set_cons_zero])))
              (refine VD_nil ?_; intro us w' hx hf; obtain ⟨x, rfl⟩ := hx.out; (try simp only [Act.put, List.setIfInBounds_toArray, List.set_cons_succ, List.set_cons_zero, wpList_none]); (try simp only [List.mem_cons, List.not_mem_nil, or_false, forall_eq_or_imp, forall_eq, List.nil_append, List.cons_append, List.mem_append, false_or, true_and, and_true] at hf); (try simp only [Nat.reduceAdd, Nat.zero_add] at hf); (try simp only [Nat.reduceAdd, Nat.zero_add]))
              clear hf hpr
              go_wp2_with (first
                | (go_at_call 23; refine (hk18 _).mono ?_; rintro e w1 ⟨rfl, hxq⟩; obtain ⟨xq, rfl⟩ := hxq.out; clear hxq)
                | fail)
              go_ret
              exact ⟨rfl, hE9.trans (by repeat (first | (with_reducible first | exact Ext.refl _ | assumption | apply Ext.alloc | apply Ext.ext | apply Ext.drew | refine Ext.setCell ?_ ?_ _) | (focus (simp [go_sem]; done))))⟩
end Go.Proofs.Ytmmbcgbadaojeaa
