/- Lemmas of this claim, several texts joined. -/
import Derived.Test.YtmmbcgbadaojeaaZ5
import Derived.Test.YtmmbcgbadaojeaaZ9
import Derived.Test.YtmmbcgbadaojeaaZ28
import Derived.Test.YtmmbcgbadaojeaaZ31
set_option linter.unusedVariables false
set_option linter.unusedSimpArgs false
/- The walks of layer 17 of the document: Size, Encode. -/
namespace Go.Pkt
theorem totN_take {L : List Fld} (h : badE L = 0) (j : Nat) : totN (L.take j) ≤ 1232 * j := by
  induction j with
  | zero => simp [totN]
  | succ j ih =>
    by_cases hj : j < L.length
    · rw [List.take_succ_eq_append_getElem hj, totN_snoc]
      have := (badE_ok h _ (List.getElem_mem hj)).2
      omega
    · rw [List.take_of_length_le (by omega)] at ih ⊢
      omega
end Go.Pkt
namespace Go.Sec
open Go.RowKit
/-- The length of a slice. -/
def slLen : Value → Nat
  | .slice _ m _ => m
  | _ => 0
theorem Own.belowB {w w' : World} {base n c B : Nat} {a : Option Addr} {l : List UInt8} (h : Own w base a n c l) (hx : Below B w w') (hlt : ∀ g, (Value.slice a n c).ownBlock = some g → g < B) : Own w' base a n c l := by
  refine ⟨h.1, h.2.1, ?_⟩
  rcases h.2.2 with h1 | ⟨g', cap, cur, hv, hb, hh, r⟩
  · exact .inl h1
  · refine .inr ⟨g', cap, cur, hv, hb, ?_, r⟩
    rw [hx.block g' (hlt g' (by rw [hv]; rfl))]
    exact hh
end Go.Sec
namespace Go.Proofs.Ytmmbcgbadaojeaa
open Go.RowKit Go.Sec Go.Oct Go.Pkt BigFrame

set_option maxRecDepth 100000 in
set_option maxHeartbeats 1000000 in
theorem rxSize_any (f : Fld) (a : Option Addr) (c : Nat) (w : World) (h : f.2.length ≤ 1000000000) :
    Calls Try.prog 75 #[.agg #[.int .i64 f.1, .slice a f.2.length c]] w fun e w' => e = .returned (.tuple #[.int .i64 (sizE f).1, .int .i64 (sizE f).2]) ∧ Ext w w' := by
  obtain ⟨t, l⟩ := f
  simp only at h ⊢
  have es : max (16 : Int) ((4 + (l.length : Int) + 3) / 4 * 4) = (szN l.length : Nat) := by unfold szN; omega
  have hge := szN_ge l.length
  by_cases h1 : t < 0
  · have er := Lib.hid (show sizE (t, l) = (0, 4) by unfold sizE; rw [if_pos (.inl h1)])
    clear es
    go_enter Try.func75, Try.ntmps75
    go_wp2_with fail
    go_ret2
    exact ⟨by rw [er.out]; rfl, (by repeat (first | (with_reducible first | exact Ext.refl _ | assumption | apply Ext.alloc | apply Ext.ext | apply Ext.drew | refine Ext.setCell ?_ ?_ _) | (focus (simp [go_sem]; done))))⟩
  · by_cases h2 : 65535 < t
    · have er := Lib.hid (show sizE (t, l) = (0, 4) by unfold sizE; rw [if_pos (.inr h2)])
      clear es
      go_enter Try.func75, Try.ntmps75
      go_wp2_with fail
      go_ret2
      exact ⟨by rw [er.out]; rfl, (by repeat (first | (with_reducible first | exact Ext.refl _ | assumption | apply Ext.alloc | apply Ext.ext | apply Ext.drew | refine Ext.setCell ?_ ?_ _) | (focus (simp [go_sem]; done))))⟩
    · by_cases h3 : 1232 < l.length
      · have er := Lib.hid (show sizE (t, l) = (0, 2) by unfold sizE; rw [if_neg (by simp; omega), if_pos (by simp only; omega)])
        have i3 : (1232 : Int) < (l.length : Int) := by omega
        clear es
        go_enter Try.func75, Try.ntmps75
        go_wp2_with fail
        go_ret2
        exact ⟨by rw [er.out]; rfl, (by repeat (first | (with_reducible first | exact Ext.refl _ | assumption | apply Ext.alloc | apply Ext.ext | apply Ext.drew | refine Ext.setCell ?_ ?_ _) | (focus (simp [go_sem]; done))))⟩
      · have i3 : ¬ (1232 : Int) < (l.length : Int) := by omega
        by_cases h4 : 1232 < szN l.length
        · have er := Lib.hid (show sizE (t, l) = (0, 2) by unfold sizE; rw [if_neg (by simp; omega), if_pos h4])
          have i4 : (1232 : Int) < max (16 : Int) ((4 + (l.length : Int) + 3) / 4 * 4) := by omega
          clear es
          go_enter Try.func75, Try.ntmps75
          go_wp2_with fail
          go_ret2
          exact ⟨by rw [er.out]; rfl, (by repeat (first | (with_reducible first | exact Ext.refl _ | assumption | apply Ext.alloc | apply Ext.ext | apply Ext.drew | refine Ext.setCell ?_ ?_ _) | (focus (simp [go_sem]; done))))⟩
        · have er := Lib.hid (show sizE (t, l) = (((szN l.length : Nat) : Int), 0) by unfold sizE; rw [if_neg (by simp; omega), if_neg h4])
          have i4 : ¬ (1232 : Int) < max (16 : Int) ((4 + (l.length : Int) + 3) / 4 * 4) := by omega
          have es := Lib.hid es
          go_enter Try.func75, Try.ntmps75
          go_wp2_with fail
          go_ret2
          exact ⟨by rw [er.out, ← es.out]; rfl, (by repeat (first | (with_reducible first | exact Ext.refl _ | assumption | apply Ext.alloc | apply Ext.ext | apply Ext.drew | refine Ext.setCell ?_ ?_ _) | (focus (simp [go_sem]; done))))⟩

set_option maxRecDepth 100000 in
set_option maxHeartbeats 2000000 in
theorem rxencode_any (a : Option Addr) (n c : Nat) (L : List Fld) (w : World) (hI : Ib w a n L) (hn : n ≤ 1000000) (hL : ∀ f ∈ L, f.2.length ≤ 1000000) :
    Calls Try.prog 38 #[.slice a n c] w (Read2 (encF L).1.length (encF L).1 (.int .i64 (encF L).2) w) := by
  have hl := hI.len
  obtain ⟨r, hr⟩ : ∃ r, encF L = r := ⟨_, rfl⟩
  rw [hr]
  have hr := Lib.hid hr
  have hp2 : ∀ (v : UInt64) (vI : Int), vI = n64 v → ∀ W, Calls Try.prog 40 #[.int .u64 vI, .int .i64 2] W (Fresh 2 (putL 2 v) W) := fun v vI hv W => by subst hv; exact put_any v 2 W (by omega)
  go_enter Try.func38, Try.ntmps38
  go_wp2_with fail
  go_loopw [4, 5, 6, 7] (fun v4 v5 _ _ wr => ∃ k : Nat, k ≤ n ∧ v5 = .int .i64 k ∧ v4 = .int .i64 (totN (L.take k) : Nat) ∧ totN (L.take k) ≤ 1232 * k ∧ Hid (badE (L.take k) = 0) ∧ Ext w wr) (fun _ v5 _ _ _ => n - (intOf v5).toNat)
  case atStart => exact ⟨0, by omega, rfl, rfl, by simp [totN], Lib.hid rfl, Ext.refl _⟩
  case round =>
    obtain ⟨k, hk, rfl, rfl, hkt, hbad, hx⟩ := hrel
    by_cases hlt : k < n
    · obtain ⟨x, hxi⟩ : ∃ x, L[k]? = some x := ⟨_, List.getElem?_eq_getElem (by omega)⟩
      have hxl := hL x (List.mem_of_getElem? hxi)
      obtain ⟨b0, o0, g', c', rfl, hb0, hc0, hc1, hSk, hck⟩ := (hI.ext hx).at k hlt _ hxi
      have hrd := rd2 hb0.lt hc0 hc1
      have i0 : (0 : Int) ≤ (k : Int) := by omega
      have i1 : (k : Int) < (n : Int) := by omega
      have hsz := fun W => rxSize_any x g' c' W (by omega)
      have hts := Lib.hid (take_at hxi)
      haveI := hb0
      by_cases he : (sizE x).2 = 0
      · obtain ⟨-, hzz, hze⟩ := sizE_ok he
        have htt := totN_snoc (L.take k) x
        rw [← hts.out] at htt
        have hb2 := Lib.hid (show badE (L.take (k + 1)) = 0 by rw [hts.out, badE_app _ _ hbad.out, badE, if_neg (by simpa using he)]; rfl)
        rw [hze] at hsz
        generalize szN x.2.length = N at *
        clear he hze
        go_wp2_with (first
          | (refine wpList_load_arr (RF2) rfl _ rfl (b0) (o0 + k * 2) rfl ([.int .i64 x.1, .slice g' x.2.length c']) (hrd) (rfl) ?_)
          | (go_at_call 75; refine (hsz _).mono ?_; rintro e w1 ⟨rfl, hxq⟩; obtain ⟨xq, rfl⟩ := hxq.out; clear hxq)
          | fail)
        go_roundw
        case rel => exact ⟨k + 1, by omega, by go_num, by rw [htt]; go_num, by omega, hb2, hx.trans (by repeat (first | (with_reducible first | exact Ext.refl _ | assumption | apply Ext.alloc | apply Ext.ext | apply Ext.drew | refine Ext.setCell ?_ ?_ _) | (focus (simp [go_sem]; done))))⟩
        case measure => simp [intOf]; omega
      · have he2 := Lib.hid (show r = ([], (sizE x).2) by
          rw [← hr.out]; unfold encF; rw [badE_at hxi hbad.out he, if_pos he])
        have hne : ((sizE x).2 != 0) = true := by rw [bne_iff_ne]; exact he
        generalize (sizE x).2 = ev at *
        generalize (sizE x).1 = sv at *
        clear he
        go_wp2_with (first
          | (refine wpList_load_arr (RF2) rfl _ rfl (b0) (o0 + k * 2) rfl ([.int .i64 x.1, .slice g' x.2.length c']) (hrd) (rfl) ?_)
          | (go_at_call 75; refine (hsz _).mono ?_; rintro e w1 ⟨rfl, hxq⟩; obtain ⟨xq, rfl⟩ := hxq.out; clear hxq)
          | fail)
        go_ret2
        rw [he2.out]
        exact read2_err _ _ _ (hx.trans (by repeat (first | (with_reducible first | exact Ext.refl _ | assumption | apply Ext.alloc | apply Ext.ext | apply Ext.drew | refine Ext.setCell ?_ ?_ _) | (focus (simp [go_sem]; done)))))
    · obtain rfl : k = n := by omega
      rw [List.take_of_length_le (by omega)] at *
      by_cases h24 : 24 < k
      · have i24 : (24 : Int) < (k : Int) := by omega
        have er := Lib.hid (show r = ([], 8) by rw [← hr.out]; unfold encF; rw [hbad.out, if_neg (by simp), if_pos (by omega)])
        go_wp2_with fail
        go_ret2
        rw [er.out]
        exact read2_err _ _ _ hx
      · have i24 : ¬ (24 : Int) < (k : Int) := by omega
        by_cases hlo : 1232 < totN L
        · have er := Lib.hid (show r = ([], 2) by rw [← hr.out]; unfold encF; rw [hbad.out, if_neg (by simp), if_neg (by omega), if_pos hlo])
          have il : (1232 : Int) < (totN L : Nat) := by omega
          go_wp2_with fail
          go_ret2
          rw [er.out]
          exact read2_err _ _ _ hx
        · have er := Lib.hid (show r = (bytesF L, 0) by rw [← hr.out]; unfold encF; rw [hbad.out, if_neg (by simp), if_neg (by omega), if_neg hlo])
          have il : ¬ (1232 : Int) < (totN L : Nat) := by omega
          have hbl2 := bytesF_length L
          have hxr := hx
          have hxw := hx.size
          have hbd := Lib.hid hbad.out
          go_wp2_with fail
          clear hr hbad hx
          refine nameW ?_
          intro W0 hW0
          have hO0 : Own W0 w.heap.size (some ⟨wr.heap.size, 0, none⟩) 0 0 [] := by rw [hW0]; exact (own_empty wr).mono hxw
          have hx0 : Ext w W0 := by rw [hW0]; exact hxr.alloc _
          clear hW0
          go_loopw [8, 9, 10, 11, 12] (fun v8 v9 _ _ _ wr => ∃ (j : Nat) (sa : Option Addr) (sc : Nat), j ≤ k ∧ v9 = .int .i64 j ∧ v8 = .slice sa (totN (L.take j)) sc ∧ Own wr w.heap.size sa (totN (L.take j)) sc (bytesF (L.take j)) ∧ Ext w wr) (fun _ v9 _ _ _ _ => k - (intOf v9).toNat)
          case atStart => exact ⟨0, _, _, by omega, rfl, rfl, hO0, hx0⟩
          case round =>
            clear hO0 hx0 hxr hxw
            obtain ⟨j, sa, sc, hj, rfl, rfl, hO, hx⟩ := hrel
            by_cases hlt : j < k
            · obtain ⟨y, hxi⟩ : ∃ y, L[j]? = some y := ⟨_, List.getElem?_eq_getElem (by omega)⟩
              have hxl := hL y (List.mem_of_getElem? hxi)
              obtain ⟨⟨t0, t1⟩, hzz⟩ := badE_ok hbd.out y (List.mem_of_getElem? hxi)
              obtain ⟨b0, o0, g', c', rfl, hb0, hc0, hc1, hSk, hck⟩ := (hI.ext hx).at j hlt _ hxi
              have hrd := rd2 hb0.lt hc0 hc1
              have i0 : (0 : Int) ≤ (j : Int) := by omega
              have i1 : (j : Int) < (k : Int) := by omega
              have hsz := fun W => rxSize_any y g' c' W (by omega)
              have hts := Lib.hid (take_at hxi)
              have htt := totN_snoc (L.take j) y
              rw [← hts.out] at htt
              have hze : sizE y = (((szN y.2.length : Nat) : Int), 0) := by unfold sizE; rw [if_neg (by omega), if_neg (by omega)]
              rw [hze] at hsz
              have hzg := szN_ge y.2.length
              obtain ⟨N, hN⟩ : ∃ N, szN y.2.length = N := ⟨_, rfl⟩
              have hfB : fldB y = putL 2 (UInt64.ofNat y.1.toNat) ++ (putL 2 (UInt64.ofNat N) ++ y.2) ++ List.replicate (N - (4 + y.2.length)) 0 := by
                unfold fldB; rw [hN, show N - 4 - y.2.length = N - (4 + y.2.length) by omega]; simp [List.append_assoc]
              have hfB := Lib.hid hfB
              rw [hN] at hsz hzz hzg htt
              have hN := Lib.hid hN
              haveI := hb0
              clear hze
              go_wp2_with (first
                | (refine wpList_load_arr (RF2) rfl _ rfl (b0) (o0 + j * 2) rfl ([.int .i64 y.1, .slice g' y.2.length c']) (hrd) (rfl) ?_)
                | (go_at_call 75; refine (hsz _).mono ?_; rintro e w1 ⟨rfl, hxq⟩; obtain ⟨xq, rfl⟩ := hxq.out; clear hxq)
                | fail)
              refine nameW ?_
              intro W hW
              have hxW : Ext wr W := by rw [hW]; exact (by repeat (first | (with_reducible first | exact Ext.refl _ | assumption | apply Ext.alloc | apply Ext.ext | apply Ext.drew | refine Ext.setCell ?_ ?_ _) | (focus (simp [go_sem]; done))))
              have hc0 := (hxW.cell (p := ⟨b0, _, none⟩) hb0.lt).trans hc0
              have hc1 := (hxW.cell (p := ⟨b0, _, none⟩) hb0.lt).trans hc1
              have hSW := hSk.ext hxW
              have hOW := hO.ext hxW
              have hxw := hx.trans hxW
              have hbW : BlkLt b0 W := ⟨Nat.lt_of_lt_of_le hb0.lt hxW.size⟩
              clear hW hxW hrd hO hx hSk
              haveI := hbW
              have hv1 : IntKind.u64.wrap y.1 = n64 (UInt64.ofNat y.1.toNat) := by rw [IntKind.wrap_u64]; unfold n64; rw [UInt64.toNat_ofNat']; omega
              have hv2 : IntKind.u64.wrap (N : Int) = n64 (UInt64.ofNat N) := by rw [IntKind.wrap_u64]; unfold n64; rw [UInt64.toNat_ofNat']; omega
              have hpa := hp2 _ _ hv1
              have hpb := hp2 _ _ hv2
              clear hv1 hv2
              refine wp_region_vague 15 [[], [], [0, 1], [0, 1, 2], [0, 1, 2, 3], [0, 1, 2, 3, 4], [0, 1, 2, 3, 4, 5], [], [7], [0, 1, 2, 3, 4, 5, 6, 7, 8], [], [], [10, 11], [10, 11, 12], [10, 11, 12, 13], [0, 1, 2, 3, 4, 5, 6, 7, 8, 9, 10, 11, 12, 13, 14], [0, 1, 2, 3, 4, 5, 6, 7, 8, 9, 10, 11, 12, 13, 14, 15], [0, 1, 2, 3, 4, 5, 6, 7, 8, 9, 10, 11, 12, 13, 14, 15, 16]] (by kernel_rfl) (by kernel_rfl) (by kernel_rfl) (by kernel_rfl) ?_; simp only [List.take_succ_cons, List.take_zero, List.drop_succ_cons, List.drop_zero, List.take_nil, List.drop_nil]
              (repeat (apply VD_der; (case h => (intro us w' hx hf; obtain ⟨x, rfl⟩ := hx.out; refine ⟨rfl, ?_⟩; simp [go_sem, execOp, *]; (try simp (disch := omega) only [Go.IntWalk.i64_in, Go.IntWalk.rem_in, Go.IntWalk.wrap64_in]); rfl)); (try simp only [Act.put, List.setIfInBounds_toArray, List.set_cons_succ, List.set_cons_zero])))
              (refine VD_vag (fun p => .slice (p 0).1 (2) (p 0).2) (fun p w'' => Own w'' 0 (p 0).1 (2) (p 0).2 (putL 2 (UInt64.ofNat y.1.toNat))) (fun p w w' h hx => h.ext hx) (fun us w' hx hf => ⟨rfl, ?_⟩) ?_; (unfold gives; simp [go_sem, execOp]; exact vag_fresh (Nat.zero_le _) (hpa _)))
              (repeat (apply VD_der; (case h => (intro us w' hx hf; obtain ⟨x, rfl⟩ := hx.out; refine ⟨rfl, ?_⟩; simp [go_sem, execOp, *]; (try simp (disch := omega) only [Go.IntWalk.i64_in, Go.IntWalk.rem_in, Go.IntWalk.wrap64_in]); rfl)); (try simp only [Act.put, List.setIfInBounds_toArray, List.set_cons_succ, List.set_cons_zero])))
              (refine VD_vag (fun p => .slice (p 0).1 (2) (p 0).2) (fun p w'' => Own w'' 0 (p 0).1 (2) (p 0).2 (putL 2 (UInt64.ofNat N))) (fun p w w' h hx => h.ext hx) (fun us w' hx hf => ⟨rfl, ?_⟩) ?_; (unfold gives; simp [go_sem, execOp]; exact vag_fresh (Nat.zero_le _) (hpb _)))
              (repeat (apply VD_der; (case h => (intro us w' hx hf; obtain ⟨x, rfl⟩ := hx.out; refine ⟨rfl, ?_⟩; simp [go_sem, execOp, *]; (try simp (disch := omega) only [Go.IntWalk.i64_in, Go.IntWalk.rem_in, Go.IntWalk.wrap64_in]); rfl)); (try simp only [Act.put, List.setIfInBounds_toArray, List.set_cons_succ, List.set_cons_zero])))
              (refine VD_nil ?_; intro us w' hx hf; obtain ⟨x, rfl⟩ := hx.out; (try simp only [Act.put, List.setIfInBounds_toArray, List.set_cons_succ, List.set_cons_zero, wpList_none]); (try simp only [List.mem_cons, List.not_mem_nil, or_false, forall_eq_or_imp, forall_eq, List.nil_append, List.cons_append, List.mem_append, false_or, true_and, and_true] at hf); (try simp only [Nat.reduceAdd, Nat.zero_add] at hf); (try simp only [Nat.reduceAdd, Nat.zero_add]))
              have hw1 : IntKind.u64.wrap y.1 = y.1 := by rw [IntKind.wrap_u64]; omega
              have hw2 : IntKind.u64.wrap (N : Int) = (N : Int) := by clear hw1; rw [IntKind.wrap_u64]; omega
              simp only [hw1, hw2]
              clear hw1 hw2
              obtain ⟨hP1, hP2⟩ := hf
              obtain ⟨p1, hp1'⟩ : ∃ a, (us 6 0).1 = a := ⟨_, rfl⟩
              obtain ⟨q1, hq1'⟩ : ∃ a, (us 6 0).2 = a := ⟨_, rfl⟩
              obtain ⟨p2, hp2'⟩ : ∃ a, (us 9 0).1 = a := ⟨_, rfl⟩
              obtain ⟨q2, hq2'⟩ : ∃ a, (us 9 0).2 = a := ⟨_, rfl⟩
              rw [hp1', hq1'] at hP1 ⊢
              rw [hp2', hq2'] at hP2 ⊢
              clear hp1' hq1' hp2' hq2' hpa hpb
              have hxx : Ext W (W.ext x) := Ext.of_ext _ _
              have hSW := hSW.ext hxx
              have hOW := hOW.ext hxx
              have hxw := hxw.trans hxx
              generalize W.ext x = W at *
              have hJl : (joinL [putL 2 (UInt64.ofNat y.1.toNat), putL 2 (UInt64.ofNat N), y.2]).length = 4 + y.2.length := by rw [joinL3]; simp only [List.length_append, putL_length]; omega
              have hJ := Lib.hid (joinL3 (putL 2 (UInt64.ofNat y.1.toNat)) (putL 2 (UInt64.ofNat N)) y.2)
              go_wp2_with fail
              (with_reducible refine (join_any _ _ _ _ _ (bss3 hP1.sl hP2.sl hSW _) (by omega) (4 + y.2.length) hJl (by omega)).mono ?_)
              rintro e w9 ⟨a9, c9, rfl, hO9, hx9⟩
              rw [hJ.out] at hO9
              have hx9 : Ext W w9 := (Ext.of_alloc _ _).trans hx9
              have hO9 := hO9.mono (show W.heap.size ≤ _ from (Ext.of_alloc _ _).size)
              have hOW9 := hOW.ext hx9
              have hxw9 := hxw.trans hx9
              have hne := fun g hg => (own_lt hOW.2 g hg).2
              clear hP1 hP2 hSW hJl hJ hOW hxx
              go_wp2_with fail
              go_loopw [12] (fun v12 w3 => ∃ (m : Nat) (sb : Option Addr) (sd : Nat), 4 + y.2.length ≤ m ∧ m ≤ N ∧ v12 = .slice sb m sd ∧ Own w3 W.heap.size sb m sd (putL 2 (UInt64.ofNat y.1.toNat) ++ (putL 2 (UInt64.ofNat N) ++ y.2) ++ List.replicate (m - (4 + y.2.length)) 0) ∧ Below W.heap.size w9 w3) (fun v12 _ => N - slLen v12)
              case atStart => exact ⟨4 + y.2.length, a9, c9, Nat.le_refl _, by omega, rfl, by simpa using hO9, Below.refl _ _⟩
              case round =>
                clear hO9
                obtain ⟨m, sb, sd, hm0, hm1, rfl, hOb, hbl⟩ := hrel
                have hsz3 := Nat.le_trans hx9.size hbl.size
                by_cases hmn : m < N
                · have im : (m : Int) < (N : Int) := by omega
                  have HS := Lib.hid (show m + 1 - (4 + y.2.length) = (m - (4 + y.2.length)) + 1 by omega)
                  go_wp2_with (at_builtin; refine wpList_append_by U rfl _ _ rfl W.heap.size sb _ sd _ rfl _ 1 1 _ rfl (hOb.ext (by repeat (first | (with_reducible first | exact Ext.refl _ | assumption | apply Ext.alloc | apply Ext.ext | apply Ext.drew | refine Ext.setCell ?_ ?_ _) | (focus (simp [go_sem]; done))))) (sl_new1 _ 0 _) (by omega) (by simp; omega) ?_; intro sa2 sc2 w2 hO2 hg2 hB2)
                  go_roundw
                  case rel => exact ⟨m + 1, sa2, sc2, by omega, by omega, rfl, by rw [HS.out, List.replicate_succ', ← List.append_assoc]; exact hO2, Below.trans (Below.trans hbl ((Ext.of_alloc _ _).mono hsz3)) hB2⟩
                  case measure => show N - (m + 1) < N - m; omega
                · obtain rfl : m = N := by omega
                  have hmi : ¬ (m : Int) < (m : Int) := by omega
                  rw [← hfB.out] at hOb
                  have hO3 := hOW9.belowB hbl hne
                  have hE3 := Below.trans hxw9 (hbl.mono hxw.size)
                  have hjt : totN (L.take j) ≤ 1232 * j := totN_take hbd.out j
                  go_wp2_with (at_builtin; refine wpList_append_by U rfl _ _ rfl w.heap.size sa _ sc _ rfl sb m sd _ rfl hO3 hOb.sl (by omega) hE3.size ?_; intro sa2 sc2 w2 hO2 hg2 hB2)
                  go_roundw
                  case rel => exact ⟨j + 1, sa2, sc2, by omega, by go_num, by rw [htt], by rw [htt, hts.out, bytesF_snoc]; exact hO2, Below.trans hE3 hB2⟩
                  case measure => simp [intOf]; omega
            · obtain rfl : j = k := by omega
              have hki : ¬ (j : Int) < (j : Int) := by omega
              rw [List.take_of_length_le (by omega)] at hO
              go_wp2_with fail
              go_ret2
              rw [er.out]
              exact ⟨sa, sc, by rw [hbl2]; rw [List.take_of_length_le (by omega)]; rfl, by rw [hbl2]; exact hO.sl, by rw [hbl2]; exact hO.le.1, hx⟩
end Go.Proofs.Ytmmbcgbadaojeaa

/- Layer 18: the law ProtectSeals. -/
namespace Go.Pkt
open Go.Oct Go.Aes Go.Sec
theorem padL_16 {l : List UInt8} (h : l.length = 16) : padL l 4 = l := by
  rw [padL_4, h]; simp [pad4]
theorem guard_law {n t : List UInt8} (h : n.length = 16) : joinL [putL 2 (UInt64.ofNat 16), putL 2 (UInt64.ofNat t.length), n, padL t 4] = guardB n t := by
  unfold guardB; rw [joinL4, padL_16 h, h]
end Go.Pkt
namespace Go.Proofs.Ytmmbcgbadaojeaa
open Go.RowKit Go.Sec Go.Oct Go.Pkt Go.Aes Go.Sha BigFrame

set_option maxRecDepth 100000 in
set_option maxHeartbeats 1000000 in
theorem protectSeals_walk (seed : Int) (a : Option Addr) (n1 c1 : Nat) (b : Option Addr) (n2 c2 : Nat) (A B : List (Int × List UInt8)) (w : World) (h1 : Ib w a n1 A) (_k1 : n1 ≤ c1) (_w1 : ∀ x ∈ A, (Lit.int .i64 x.1).wf = true) (h2 : Ib w b n2 B) (_k2 : n2 ≤ c2) (_w2 : ∀ x ∈ B, (Lit.int .i64 x.1).wf = true) :
    Calls Try.prog 9 #[.int .i64 seed, .slice a n1 c1, .slice b n2 c2] w fun e w' => e = .returned (.bool true) ∧ Ext w w' := by
  obtain ⟨s1, hs1, es1⟩ := nmod seed 1000 (by omega)
  have es1 : seed % 1000 = (s1 : Int) := es1
  have hw1 := fun W => within_any seed 1000 W (by omega) (by omega)
  rw [es1] at hw1
  have hask : ∀ W, Calls Try.prog 26 #[.int .u64 5] W fun e w' => e = .returned (.agg #[.int .i64 (askH 5).leap, .int .i64 (askH 5).ver, .int .i64 (askH 5).mode, .int .i64 (askH 5).strat, .int .i64 (askH 5).poll, .int .i64 (askH 5).prec, .int .u32 (n32 (askH 5).rd), .int .u32 (n32 (askH 5).rp), .int .u32 (n32 (askH 5).id), .int .u64 (n64 (askH 5).ref), .int .u64 (n64 (askH 5).org), .int .u64 (n64 (askH 5).rcv), .int .u64 (n64 (askH 5).tx)]) ∧ Ext W w' := fun W => rask_any 5 W
  have hf1 := fun W H => wfields_any a n1 c1 A W H
  have hf2 := fun W H => wfields_any b n2 c2 B W H
  have hky := fun W => key_any s1 rfl W (by omega)
  have hnn := fun W => wbytes_any s1 16 rfl (show (16 : Int) = ((16 : Nat) : Int) from rfl) W (by omega) (by omega)
  clear es1
  go_enter Try.func9, Try.ntmps9
  go_wp2_with fail
  (with_reducible refine (hw1 _).mono ?_); rintro e w1 ⟨rfl, hx1⟩
  go_wp2_with fail
  (with_reducible refine (hask _).mono ?_); rintro e w3 ⟨rfl, hx3⟩
  have hE3 := hx1.trans hx3
  clear hx1 hx3 hw1 hask
  go_wp2_with fail
  (with_reducible refine (hf1 _ (h1.ext hE3)).mono ?_); rintro e w4 ⟨b1, d1, rfl, hO1, hx4⟩
  have hE4 := hE3.trans hx4
  clear hE3 hf1 hx4
  go_wp2_with fail
  (with_reducible refine (hf2 _ (h2.ext hE4)).mono ?_); rintro e w5 ⟨b2, d2, rfl, hO2, hx5⟩
  have hE5 := hE4.trans hx5
  have hI1 := hO1.ib.1.ext hx5
  have hI2 := hO2.ib.1
  clear hE4 hf2 hx5 hO1 hO2
  go_wp2_with (first
    | (refine wpList_alloc_store (RP16) rfl rfl _ _ rfl rfl rfl rfl (by simp [Act.put]) ([.int .i64 (askH 5).leap, .int .i64 (askH 5).ver, .int .i64 (askH 5).mode, .int .i64 (askH 5).strat, .int .i64 (askH 5).poll, .int .i64 (askH 5).prec, .int .u32 (n32 (askH 5).rd), .int .u32 (n32 (askH 5).rp), .int .u32 (n32 (askH 5).id), .int .u64 (n64 (askH 5).ref), .int .u64 (n64 (askH 5).org), .int .u64 (n64 (askH 5).rcv), .int .u64 (n64 (askH 5).tx), .slice b1 (wflds A).length d1, .slice b2 (wflds B).length d2, .bool false]) rfl (by simp) (rfl) ((by simp; repeat' (first | rfl | constructor))) ?_; intro x hz _)
    | fail)
  refine nameCl ?_
  intro W hW
  have hx6 : Ext w5 W := by rw [hW]; exact (by repeat (first | (with_reducible first | exact Ext.refl _ | assumption | apply Ext.alloc | apply Ext.ext | apply Ext.drew | refine Ext.setCell ?_ ?_ _) | (focus (simp [go_sem]; done))))
  have hB1 : Blk W w5.heap.size 58 [.int .i64 (askH 5).leap, .int .i64 (askH 5).ver, .int .i64 (askH 5).mode, .int .i64 (askH 5).strat, .int .i64 (askH 5).poll, .int .i64 (askH 5).prec, .int .u32 (n32 (askH 5).rd), .int .u32 (n32 (askH 5).rp), .int .u32 (n32 (askH 5).id), .int .u64 (n64 (askH 5).ref), .int .u64 (n64 (askH 5).org), .int .u64 (n64 (askH 5).rcv), .int .u64 (n64 (askH 5).tx), .slice b1 (wflds A).length d1, .slice b2 (wflds B).length d2, .bool false] := by rw [hW]; exact hz.extB (by repeat (first | (with_reducible first | exact Ext.refl _ | assumption | apply Ext.alloc | apply Ext.ext | apply Ext.drew | refine Ext.setCell ?_ ?_ _) | (focus (simp [go_sem]; done))))
  have hE6 := hE5.trans hx6
  have hI1 := hI1.ext hx6
  have hI2 := hI2.ext hx6
  clear hW hx6 hz hE5
  (with_reducible refine (hnn _).mono ?_); rintro e w7 ⟨p0, q0, rfl, hO0, hx7⟩
  have hE7 := hE6.trans hx7
  have hB1 := hB1.extB hx7
  have hI1 := hI1.ext hx7
  have hI2 := hI2.ext hx7
  have hN0 := hO0.sl
  have hN0c := hO0.le.1
  clear hE6 hx7 hnn hO0
  haveI := hB1.blt
  go_wp2_with fail
  refine wp_region_vague 9 [[], [0], [], [], [0, 1, 2, 3], [0, 1, 2, 3, 4], [0, 1, 2, 3, 4, 5], [0, 1, 2, 3, 4, 5], [0, 1, 2, 3, 4, 5, 6], [0, 1, 2, 3, 4, 5, 6, 7, 8]] (by kernel_rfl) (by kernel_rfl) (by kernel_rfl) (by kernel_rfl) ?_; simp only [List.take_succ_cons, List.take_zero, List.drop_succ_cons, List.drop_zero, List.take_nil, List.drop_nil]
  (repeat (apply VD_der; (case h => (intro us w' hx hf; obtain ⟨x, rfl⟩ := hx.out; refine ⟨rfl, ?_⟩; simp [go_sem, execOp, *]; (try simp (disch := omega) only [Go.IntWalk.i64_in, Go.IntWalk.rem_in, Go.IntWalk.wrap64_in]); rfl)); (try simp only [Act.put, List.setIfInBounds_toArray, List.set_cons_succ, List.set_cons_zero])))
  (refine VD_vag (fun p => .slice (p 0).1 (32) (p 0).2) (fun p w'' => Own w'' 0 (p 0).1 (32) (p 0).2 (wbytes s1 32)) (fun p w w' h hx => h.ext hx) (fun us w' hx hf => ⟨rfl, ?_⟩) ?_; (unfold gives; simp [go_sem, execOp]; exact vag_fresh (Nat.zero_le _) (hky _)))
  (refine VD_load_arr (RP16) _ rfl (fun _ => rfl) (w5.heap.size) (0) (fun _ => by simp [go_sem]) ([.int .i64 (askH 5).leap, .int .i64 (askH 5).ver, .int .i64 (askH 5).mode, .int .i64 (askH 5).strat, .int .i64 (askH 5).poll, .int .i64 (askH 5).prec, .int .u32 (n32 (askH 5).rd), .int .u32 (n32 (askH 5).rp), .int .u32 (n32 (askH 5).id), .int .u64 (n64 (askH 5).ref), .int .u64 (n64 (askH 5).org), .int .u64 (n64 (askH 5).rcv), .int .u64 (n64 (askH 5).tx), .slice b1 (wflds A).length d1, .slice b2 (wflds B).length d2, .bool false]) (hB1.rd) (rfl) ?_)
  (repeat (apply VD_der; (case h => (intro us w' hx hf; obtain ⟨x, rfl⟩ := hx.out; refine ⟨rfl, ?_⟩; simp [go_sem, execOp, *]; (try simp (disch := omega) only [Go.IntWalk.i64_in, Go.IntWalk.rem_in, Go.IntWalk.wrap64_in]); rfl)); (try simp only [Act.put, List.setIfInBounds_toArray, List.set_cons_succ, List.set_cons_zero])))
  (refine VD_vag (fun p => .tuple #[.slice (p 0).1 ((protX s1 5 A B).length) (p 0).2, .int .i64 0]) (fun p w'' => Sl w'' (p 0).1 ((protX s1 5 A B).length) (protX s1 5 A B) ∧ ((protX s1 5 A B).length) ≤ (p 0).2) (fun p w w' h hx => ⟨h.1.ext hx, h.2⟩) (fun us w' hx hf => ⟨rfl, ?_⟩) ?_; (unfold gives; simp [go_sem, execOp]; exact vag_read (prot5_any _ _ b1 b2 _ _ d1 d2 s1 A B _ (Own.sl (hf _ (List.mem_append_right _ (List.mem_singleton_self _)) rfl)) (Own.le (hf _ (List.mem_append_right _ (List.mem_singleton_self _)) rfl)).1 (hN0.ext hx) hN0c (hI1.ext hx) (hI2.ext hx))))
  (repeat (apply VD_der; (case h => (intro us w' hx hf; obtain ⟨x, rfl⟩ := hx.out; refine ⟨rfl, ?_⟩; simp [go_sem, execOp, *]; (try simp (disch := omega) only [Go.IntWalk.i64_in, Go.IntWalk.rem_in, Go.IntWalk.wrap64_in]); rfl)); (try simp only [Act.put, List.setIfInBounds_toArray, List.set_cons_succ, List.set_cons_zero])))
  (refine VD_nil ?_; intro us w' hx hf; obtain ⟨x, rfl⟩ := hx.out; (try simp only [Act.put, List.setIfInBounds_toArray, List.set_cons_succ, List.set_cons_zero, wpList_none]); (try simp only [List.mem_cons, List.not_mem_nil, or_false, forall_eq_or_imp, forall_eq, List.nil_append, List.cons_append, List.mem_append, false_or, true_and, and_true] at hf); (try simp only [Nat.reduceAdd, Nat.zero_add] at hf); (try simp only [Nat.reduceAdd, Nat.zero_add]))
  obtain ⟨-, hX, hXc⟩ := hf
  obtain ⟨p5, hp5⟩ : ∃ a, (us 4 0).1 = a := ⟨_, rfl⟩
  obtain ⟨q5, hq5⟩ : ∃ a, (us 4 0).2 = a := ⟨_, rfl⟩
  rw [hp5] at hX ⊢
  rw [hq5] at hXc ⊢
  clear hp5 hq5
  have hxx : Ext w7 (w7.ext x) := Ext.of_ext _ _
  have hE8 := hE7.trans hxx
  have hB8 := hB1.extB hxx
  have hI1 := hI1.ext hxx
  have hI2 := hI2.ext hxx
  have hN0 := hN0.ext hxx
  clear hE7 hB1 hxx
  generalize w7.ext x = V at *
  haveI := hB8.blt
  have f13 : V.cell? ⟨w5.heap.size, 13, none⟩ = some (.slice b1 (wflds A).length d1) := hB8.cell? 13 rfl
  have hHd : Rd V (some ⟨w5.heap.size, 0, none⟩) [.int .i64 (askH 5).leap, .int .i64 (askH 5).ver, .int .i64 (askH 5).mode, .int .i64 (askH 5).strat, .int .i64 (askH 5).poll, .int .i64 (askH 5).prec, .int .u32 (n32 (askH 5).rd), .int .u32 (n32 (askH 5).rp), .int .u32 (n32 (askH 5).id), .int .u64 (n64 (askH 5).ref), .int .u64 (n64 (askH 5).org), .int .u64 (n64 (askH 5).rcv), .int .u64 (n64 (askH 5).tx)] := Rd.left (vs := [.int .i64 (askH 5).leap, .int .i64 (askH 5).ver, .int .i64 (askH 5).mode, .int .i64 (askH 5).strat, .int .i64 (askH 5).poll, .int .i64 (askH 5).prec, .int .u32 (n32 (askH 5).rd), .int .u32 (n32 (askH 5).rp), .int .u32 (n32 (askH 5).id), .int .u64 (n64 (askH 5).ref), .int .u64 (n64 (askH 5).org), .int .u64 (n64 (askH 5).rcv), .int .u64 (n64 (askH 5).tx)]) (us := [.slice b1 (wflds A).length d1, .slice b2 (wflds B).length d2, .bool false]) hB8.rd
  go_wp2_with (first
    | (refine wpList_load_arr (RH13) rfl _ rfl (w5.heap.size) (0) rfl ([.int .i64 (askH 5).leap, .int .i64 (askH 5).ver, .int .i64 (askH 5).mode, .int .i64 (askH 5).strat, .int .i64 (askH 5).poll, .int .i64 (askH 5).prec, .int .u32 (n32 (askH 5).rd), .int .u32 (n32 (askH 5).rp), .int .u32 (n32 (askH 5).id), .int .u64 (n64 (askH 5).ref), .int .u64 (n64 (askH 5).org), .int .u64 (n64 (askH 5).rcv), .int .u64 (n64 (askH 5).tx)]) ((hHd.ext (by repeat (first | (with_reducible first | exact Ext.refl _ | assumption | apply Ext.alloc | apply Ext.ext | apply Ext.drew | refine Ext.setCell ?_ ?_ _) | (focus (simp [go_sem]; done)))))) (rfl) ?_)
    | fail)
  clear f13 hHd
  have hba := fun V H => bare5_any b1 none d1 0 A V H
  obtain ⟨Z, hZ⟩ : ∃ Z, hdrB (askH 5) ++ bytesF (wflds A) = Z := ⟨_, rfl⟩
  rw [hZ] at hba
  have hZl := Lib.hid (show Z.length ≤ 1280 by
    have l1 : (hdrB (askH 5) ++ bytesF (wflds A)).length = 48 + totN (wflds A) := by rw [List.length_append, hdrB_length, bytesF_length]
    have l2 := wflds_tot A
    rw [← hZ]; omega)
  have hZ := Lib.hid hZ
  (with_reducible refine (hba V hI1).mono ?_)
  rintro e w9 ⟨b9, d9, rfl, hS9, hd9, hx9⟩
  have hE9 := hE8.trans hx9
  have hB9 := hB8.extB hx9
  have hI2 := hI2.ext hx9
  have hN0 := hN0.ext hx9
  have hX := hX.ext hx9
  clear hE8 hB8 hx9 hI1
  haveI := hB9.blt
  have f14 : w9.cell? ⟨w5.heap.size, 14, none⟩ = some (.slice b2 (wflds B).length d2) := hB9.cell? 14 rfl
  have lB := wflds_len B
  have henc := fun W H => xencode_any b2 (wflds B).length d2 (wflds B) W H (by omega) (fun f hf => by have := (wflds_in hf).2.2; omega)
  have hfit := wflds_fits 5 A B false 16 (by omega)
  rw [(fits_open hfit).2.2.1] at henc
  go_wp2_with fail
  clear f14
  (with_reducible refine (henc w9 hI2).mono ?_)
  rintro e w10 ⟨b10, d10, rfl, hS10, hd10, hx10⟩
  have hS10 : Sl w10 b10 (bytesF (wflds B)).length (bytesF (wflds B)) := hS10
  have hd10 : (bytesF (wflds B)).length ≤ d10 := hd10
  have hE10 := hE9.trans hx10
  have hS9 := hS9.ext hx10
  have hN0 := hN0.ext hx10
  have hX := hX.ext hx10
  clear hE9 hB9 hx10 hI2 henc
  go_wp2_with fail
  (with_reducible refine (hky _).mono ?_); rintro e w11 ⟨b11, d11, rfl, hO11, hx11⟩
  have hE11 := hE10.trans hx11
  have hS9 := hS9.ext hx11
  have hS10 := hS10.ext hx11
  have hN0 := hN0.ext hx11
  have hX := hX.ext hx11
  have hK11 := hO11.sl
  have hK11c := hO11.le.1
  clear hE10 hx11 hky hO11
  have hk32 := hK11.len
  have hn16 := hN0.len
  have hz2 : (sealE (wbytes s1 32) [hdrB (askH 5) ++ bytesF (wflds A), wbytes s1 16] (bytesF (wflds B))).2 = 0 := by
    have l1 := fits_len hfit
    have l2 := wflds_tot A
    have l3 := wflds_tot B
    have l1 : (hdrB (askH 5) ++ bytesF (wflds A)).length = 48 + totN (wflds A) := l1
    exact (seal2 hk32 (by omega) (by omega) (by rw [bytesF_length]; omega)).1
  have hse := fun b' c' W H1 H2 H3 => seal_any b11 b' b10 32 d11 2 c' (bytesF (wflds B)).length d10 (wbytes s1 32) [hdrB (askH 5) ++ bytesF (wflds A), wbytes s1 16] (bytesF (wflds B)) W H1 hK11c H2 (by omega) H3 hd10
  rw [hz2] at hse
  have hXd : protX s1 5 A B = (hdrB (askH 5) ++ bytesF (wflds A)) ++ fldB (1028, guardB (wbytes s1 16) (sealE (wbytes s1 32) [hdrB (askH 5) ++ bytesF (wflds A), wbytes s1 16] (bytesF (wflds B))).1) := rfl
  have hsb : (sealE (wbytes s1 32) [hdrB (askH 5) ++ bytesF (wflds A), wbytes s1 16] (bytesF (wflds B))).1.length = 16 + totN (wflds B) := sealB_len (ky := wbytes s1 32) (nonce := wbytes s1 16) (p := ⟨askH 5, wflds A, wflds B, false⟩) hk32 (by rw [hn16]; exact hfit)
  have htB := wflds_tot B
  rw [hXd] at hX hXc ⊢
  clear hXd hz2 hfit hba
  rw [hZ.out] at hse hX hXc hsb ⊢
  clear hZ
  generalize (sealE (wbytes s1 32) [Z, wbytes s1 16] (bytesF (wflds B))).1 = T at *
  generalize bytesF (wflds B) = S at *
  generalize wbytes s1 16 = N at *
  generalize wbytes s1 32 = K at *
  obtain ⟨X, hXe⟩ : ∃ X, Z ++ fldB (1028, guardB N T) = X := ⟨_, rfl⟩
  rw [hXe] at hX hXc ⊢
  have hXe := Lib.hid hXe
  have hTl : T.length ≤ 272 := by omega
  have hp2 : ∀ (v : UInt64) (vI : Int), vI = n64 v → ∀ W, Calls Try.prog 40 #[.int .u64 vI, .int .i64 2] W (Fresh 2 (putL 2 v) W) := fun v vI hv W => by subst hv; exact put_any v 2 W (by omega)
  have hv2 : (T.length : Int) = n64 (UInt64.ofNat T.length) := by unfold n64; rw [UInt64.toNat_ofNat']; omega
  have hpa := hp2 (UInt64.ofNat 16) 16 rfl
  have hpb := hp2 _ _ hv2
  have hgl := guardB_len N T
  have hgj := guard_law (t := T) hn16
  have hpl := padL_4 T
  have hpl2 := padL_4_length T
  clear hp2 hv2 hsb htB
  go_wp2_with fail
  (with_reducible refine (hse _ _ _ (hK11.ext (Ext.of_alloc _ _)) (bsc2 hS9 hd9 hN0 hN0c _) (hS10.ext (Ext.of_alloc _ _))).mono ?_)
  rintro e w12 ⟨b12, d12, rfl, hT, hTc, hx12⟩
  have hx12 : Ext w11 w12 := (Ext.of_alloc _ _).trans hx12
  have hE12 := hE11.trans hx12
  have hS9 := hS9.ext hx12
  have hN0 := hN0.ext hx12
  have hX := hX.ext hx12
  clear hE11 hx12 hse hK11 hS10
  have hTl := Lib.hid hTl
  go_wp2_with fail
  (with_reducible refine (hpa _).mono ?_); rintro e w13 ⟨b13, d13, rfl, hO13, hx13⟩
  have hTi : (T.length : Int) ≤ 272 := by have := hTl.out; omega
  go_wp2_with fail
  (with_reducible refine (hpb _).mono ?_); rintro e w14 ⟨b14, d14, rfl, hO14, hx14⟩
  have hx14' := hx13.trans hx14
  go_wp2_with fail
  have hpd : ∀ V, Sl V b12 T.length T → Calls Try.prog 41 #[.slice b12 T.length d12, .int .i64 4] V (Fresh (pad4 T.length) (T ++ List.replicate (pad4 T.length - T.length) 0) V) := fun V H => pad_any b12 T.length d12 T 4 V H (by have := hTl.out; omega) (by omega) (by omega) (pad4 T.length) (by unfold pad4; omega)
  (with_reducible refine (hpd w14 (hT.ext hx14')).mono ?_)
  clear hpd
  rintro e w15 ⟨b15, d15, rfl, hO15, hx15⟩
  have hx15' := hx14'.trans hx15
  have hO15 : Own w15 w14.heap.size b15 (pad4 T.length) d15 (padL T 4) := by rw [hpl]; exact hO15
  have hN0 := hN0.ext hx15'
  have hS9 := hS9.ext hx15'
  have hX := hX.ext hx15'
  have hE15 := hE12.trans hx15'
  have hO14 := hO14.ext hx15
  have hO13 := hO13.ext (hx14.trans hx15)
  clear hpl hpl2 hT
  go_wp2_with fail
  (with_reducible refine (join_any _ _ _ _ _ (bss4 hO13.sl hO14.sl hN0 hO15.sl _) (by omega) (guardB N T).length (by rw [hgj]) (by rw [hgl]; have := hTl.out; unfold pad4; omega)).mono ?_)
  rintro e w16 ⟨b16, d16, rfl, hO16, hx16⟩
  rw [hgj] at hO16
  have hx16 : Ext w15 w16 := (Ext.of_alloc _ _).trans hx16
  have hE16 := hE15.trans hx16
  have hS9 := hS9.ext hx16
  have hX := hX.ext hx16
  have hszG : szN (guardB N T).length ≤ 1232 := by rw [hgl, hn16]; have := hTl.out; unfold szN pad4; omega
  have hrx := fun a' c' W H => rxencode_any a' 1 c' [(1028, guardB N T)] W H (by omega) (by intro f hf; rw [List.mem_singleton.1 hf]; show (guardB N T).length ≤ 1000000; rw [hgl]; have := hTl.out; unfold pad4; omega)
  rw [encF_of (L := [(1028, guardB N T)]) (by intro f hf; rw [List.mem_singleton.1 hf]; exact ⟨⟨by simp, by simp⟩, hszG⟩) (by simp) (by simp [totN]; exact hszG), show bytesF [((1028 : Int), guardB N T)] = fldB (1028, guardB N T) by simp [bytesF]] at hrx
  have hfl := fldB_length (1028, guardB N T)
  have hszG2 : (fldB (1028, guardB N T)).length ≤ 1232 := by rw [hfl]; exact hszG
  have hgS := hO16.sl
  have hgc := hO16.le.1
  clear hO13 hO14 hO15 hN0 hE12 hE15 hx13 hx14 hx15 hx14' hx15' hgl hgj hszG hfl hO16 hx16
  generalize guardB N T = G at *
  go_wp2_with fail
  (with_reducible refine (hrx _ _ _ (ib1 hgS hgc 1028 _)).mono ?_)
  rintro e w17 ⟨b17, d17, rfl, hF, hFc, hx17⟩
  have hx17 : Ext w16 w17 := (Ext.of_alloc _ _).trans hx17
  have hE17 := hE16.trans hx17
  have hS9 := hS9.ext hx17
  have hX := hX.ext hx17
  have hF : Sl w17 b17 (fldB (1028, G)).length (fldB (1028, G)) := hF
  have hszG2 := Lib.hid hszG2
  generalize fldB (1028, G) = Y at *
  clear hE16 hx17 hrx hgS hgc
  go_wp2_with fail
  (with_reducible refine (known18_any _).mono ?_)
  rintro e w18 ⟨rfl, hx18⟩
  have hE18 := hE17.trans hx18
  have hS9 := hS9.ext hx18
  have hX := hX.ext hx18
  have hF := hF.ext hx18
  have hjl : (joinL [Z, Y]).length = Z.length + Y.length := by rw [joinL2, List.length_append]
  have hj := Lib.hid (show joinL [Z, Y] = X by rw [joinL2]; exact hXe.out)
  have hXl := Lib.hid (show X.length = Z.length + Y.length by rw [← hXe.out, List.length_append])
  go_wp2_with fail
  (with_reducible refine (join_any _ _ _ _ _ (bss2 (hS9.ext (by repeat (first | (with_reducible first | exact Ext.refl _ | assumption | apply Ext.alloc | apply Ext.ext | apply Ext.drew | refine Ext.setCell ?_ ?_ _) | (focus (simp [go_sem]; done))))) (hF.ext (by repeat (first | (with_reducible first | exact Ext.refl _ | assumption | apply Ext.alloc | apply Ext.ext | apply Ext.drew | refine Ext.setCell ?_ ?_ _) | (focus (simp [go_sem]; done))))) _) (by omega) (Z.length + Y.length) hjl (by have := hszG2.out; have := hZl.out; omega)).mono ?_)
  rintro e w19 ⟨b19, d19, rfl, hJ, hx19⟩
  rw [hj.out, ← hXl.out] at hJ
  rw [← hXl.out]
  have hx19 : Ext w18 w19 := (Ext.of_alloc _ _).trans hx19
  have hsm := fun W H1 H2 => same_any p5 b19 X.length q5 X.length d19 X X W H1 H2
  rw [beq_self_eq_true] at hsm
  clear hjl
  go_wp2_with fail
  (with_reducible refine (hsm _ (hX.ext hx19) hJ.sl).mono ?_)
  rintro e w20 ⟨rfl, hx20⟩
  go_wp2_with fail
  go_ret
  exact ⟨rfl, hE18.trans (hx19.trans hx20)⟩
end Go.Proofs.Ytmmbcgbadaojeaa
