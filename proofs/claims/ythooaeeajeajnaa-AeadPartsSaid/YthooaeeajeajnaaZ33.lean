/- Lemmas of this claim, several texts joined. -/
import Derived.Test.YthooaeeajeajnaaZ31
set_option linter.unusedVariables false
set_option linter.unusedSimpArgs false
/- Layer 6: the law AeadParts. -/
namespace Go.Proofs.Ythooaeeajeajnaa
open Go.RowKit Go.Sec Go.Oct Go.Aes Go.Sha BigFrame

set_option maxRecDepth 100000 in
set_option maxHeartbeats 4000000 in
theorem aeadParts_walk (seed : Int) (a1 : Option Addr) (n1 c1 : Nat) (a2 : Option Addr) (n2 c2 : Nat) (A : List (List UInt8)) (b : List UInt8) (w : World) (hA : Bsc w a1 n1 A) (hA' : n1 ≤ c1) (hb : Sl w a2 n2 b) (hb' : n2 ≤ c2) :
    Calls Try.prog 12 #[.int .i64 seed, .slice a1 n1 c1, .slice a2 n2 c2] w fun e w' => e = .returned (.bool true) ∧ Ext w w' := by
  obtain ⟨s, hs1, hs⟩ := nat_mod seed 1000 (by omega)
  simp only [Int.cast_ofNat_Int] at hs
  have HS := Lib.hid hs
  clear hs
  go_enter Try.func12, Try.ntmps12
  go_wp2_with fail; (with_reducible refine (within_any seed 1000 _ (by omega) (by omega)).mono ?_); rintro e w1 ⟨rfl, hxq⟩; obtain ⟨xq, rfl⟩ := hxq.out; clear hxq
  rw [HS.out]
  go_wp2_with fail; (with_reducible refine (key_any s (by omega) _ (by omega)).mono ?_); rintro e wk ⟨ak, ck, rfl, hO, hxk⟩
  have hS := hO.sl
  have hle := hO.le
  have hxw : Ext w wk := Ext.trans (by repeat (first | (with_reducible first | exact Ext.refl _ | assumption | apply Ext.alloc | apply Ext.ext | apply Ext.drew | refine Ext.setCell ?_ ?_ _) | (focus (simp [go_sem]; done)))) hxk
  generalize wbytes s 32 = ky at *
  clear hO hxk
  have hAk := hA.ext hxw
  have hbk := hb.ext hxw
  have hl := fun w h1 h2 h3 => light_any ak a1 a2 32 ck n1 c1 n2 c2 ky A b w h1 h2 h3
  cases hlt : lightB ky A b
  · rw [hlt] at hl
    clear hlt
    go_wp2_with (first | (go_at_call 45; (with_reducible refine (hl ?_ ?hq218 ?hq219 ?hq220).mono ?_); (case hq218 => (repeat' (first | with_reducible assumption | (with_reducible exact zeros16 _) | (with_reducible exact sl_new1 _ _ _) | (with_reducible first | apply Sl.upE | apply Sl.upA | apply Sl.upD)))); (case hq219 => (repeat' (first | with_reducible assumption | (refine bsc2 ?_ ?_ ?_ ?_ _; (· (repeat' (first | with_reducible assumption | (with_reducible exact zeros16 _) | (with_reducible exact sl_new1 _ _ _) | (with_reducible first | apply Sl.upE | apply Sl.upA | apply Sl.upD)))); (· omega); (· (repeat' (first | with_reducible assumption | (with_reducible exact zeros16 _) | (with_reducible exact sl_new1 _ _ _) | (with_reducible first | apply Sl.upE | apply Sl.upA | apply Sl.upD)))); (· omega)) | (with_reducible first | apply Bsc.upE | apply Bsc.upA | apply Bsc.upD)))); (case hq220 => (repeat' (first | with_reducible assumption | (with_reducible exact zeros16 _) | (with_reducible exact sl_new1 _ _ _) | (with_reducible first | apply Sl.upE | apply Sl.upA | apply Sl.upD)))); rintro e w1 ⟨rfl, hxq⟩; obtain ⟨xq, rfl⟩ := hxq.out; clear hxq) | (go_at_call 46; refine (known6_any _).mono ?_; rintro e w1 ⟨rfl, hxq⟩; obtain ⟨xq, rfl⟩ := hxq.out; clear hxq) | fail)
    go_returns
    exact ⟨rfl, hxw.trans (by repeat (first | (with_reducible first | exact Ext.refl _ | assumption | apply Ext.alloc | apply Ext.ext | apply Ext.drew | refine Ext.setCell ?_ ?_ _) | (focus (simp [go_sem]; done))))⟩
  · obtain ⟨_, h20, h100, hmx⟩ := lightB_spec hlt
    rw [hlt] at hl
    rw [hA.len] at h20
    rw [hb.len] at h100
    by_cases h16 : 16 < n1
    · have hI : decide ((16 : Int) < (n1 : Int)) = true := by simp; omega
      clear hlt hmx
      go_wp2_with (first | (go_at_call 45; (with_reducible refine (hl ?_ ?hq221 ?hq222 ?hq223).mono ?_); (case hq221 => (repeat' (first | with_reducible assumption | (with_reducible exact zeros16 _) | (with_reducible exact sl_new1 _ _ _) | (with_reducible first | apply Sl.upE | apply Sl.upA | apply Sl.upD)))); (case hq222 => (repeat' (first | with_reducible assumption | (refine bsc2 ?_ ?_ ?_ ?_ _; (· (repeat' (first | with_reducible assumption | (with_reducible exact zeros16 _) | (with_reducible exact sl_new1 _ _ _) | (with_reducible first | apply Sl.upE | apply Sl.upA | apply Sl.upD)))); (· omega); (· (repeat' (first | with_reducible assumption | (with_reducible exact zeros16 _) | (with_reducible exact sl_new1 _ _ _) | (with_reducible first | apply Sl.upE | apply Sl.upA | apply Sl.upD)))); (· omega)) | (with_reducible first | apply Bsc.upE | apply Bsc.upA | apply Bsc.upD)))); (case hq223 => (repeat' (first | with_reducible assumption | (with_reducible exact zeros16 _) | (with_reducible exact sl_new1 _ _ _) | (with_reducible first | apply Sl.upE | apply Sl.upA | apply Sl.upD)))); rintro e w1 ⟨rfl, hxq⟩; obtain ⟨xq, rfl⟩ := hxq.out; clear hxq) | (go_at_call 46; refine (known6_any _).mono ?_; rintro e w1 ⟨rfl, hxq⟩; obtain ⟨xq, rfl⟩ := hxq.out; clear hxq) | fail)
      go_returns
      exact ⟨rfl, hxw.trans (by repeat (first | (with_reducible first | exact Ext.refl _ | assumption | apply Ext.alloc | apply Ext.ext | apply Ext.drew | refine Ext.setCell ?_ ?_ _) | (focus (simp [go_sem]; done))))⟩
    · have hI : decide ((16 : Int) < (n1 : Int)) = false := by simp; omega
      have hck := checkA_light hS.len (by rw [hA.len]; omega) hmx
      have hbl : b.length ≤ 65519 := by rw [hb.len]; omega
      have f3 := fun w h1 h2 h3 h5 => seal_any ak a1 a2 32 ck n1 c1 n2 c2 ky A b w h1 h2 h3 (by omega) h5 hb'
      have hL := sealE_ok hck hbl
      have htl := s2v_length (ky.take 16) (A ++ [b])
      have hsl := stream_length (ky.drop 16) (ctrOf (s2v (ky.take 16) (A ++ [b]))) b
      rw [hb.len] at hsl
      rw [hL] at f3
      simp only at f3
      have hmax : ∀ x ∈ A ++ [b], x.length ≤ 65535 := by
        intro x hx
        rcases List.mem_append.1 hx with h | h
        · have := hmx x h; omega
        · simp only [List.mem_singleton] at h; subst h; omega
      have hve := fun a sa sc ca w h1 h2 h3 h4 h5 => vector_any a sa ca (n1 + 1) sc (ky.take 16) (A ++ [b]) w h1 h2 h3 h4 h5 hmax
      have hstr := fun a1' a2' c1' c2' w h1 h2 h3 h4 h5 h6 => stream_any a1' a2' a2 c1' c2' c2 n2 (ky.drop 16) (ctrOf (s2v (ky.take 16) (A ++ [b]))) b w h1 h2 h3 h4 h5 h6
      have hC := Lib.hid (show ctrOf (s2v (ky.take 16) (A ++ [b])) = ((s2v (ky.take 16) (A ++ [b])).set 8 (at' (s2v (ky.take 16) (A ++ [b])) 8 &&& 127)).set 12 (at' (s2v (ky.take 16) (A ++ [b])) 12 &&& 127) from rfl)
      generalize stream (ky.drop 16) (ctrOf (s2v (ky.take 16) (A ++ [b]))) b = st at *
      generalize ctrOf (s2v (ky.take 16) (A ++ [b])) = ct at *
      generalize s2v (ky.take 16) (A ++ [b]) = tg at *
      have hll : (tg ++ st).length = n2 + 16 := by rw [List.length_append, htl, hsl]; omega
      have h16t := Lib.hid (show (tg ++ st).take 16 = tg by rw [List.take_append_of_le_length (by omega), List.take_of_length_le (by omega)])
      have h16d := Lib.hid (show (tg ++ st).drop 16 = st by rw [List.drop_append_of_le_length (by omega), List.drop_of_length_le (by omega), List.nil_append])
      rw [hll] at f3
      generalize tg ++ st = x at *
      clear hlt hmx hck hbl hL hsl hmax
      go_wp2_with (first
        | (go_at_call 45; (with_reducible refine (hl ?_ ?hq224 ?hq225 ?hq226).mono ?_); (case hq224 => (repeat' (first | with_reducible assumption | (with_reducible exact zeros16 _) | (with_reducible exact sl_new1 _ _ _) | (with_reducible first | apply Sl.upE | apply Sl.upA | apply Sl.upD)))); (case hq225 => (repeat' (first | with_reducible assumption | (refine bsc2 ?_ ?_ ?_ ?_ _; (· (repeat' (first | with_reducible assumption | (with_reducible exact zeros16 _) | (with_reducible exact sl_new1 _ _ _) | (with_reducible first | apply Sl.upE | apply Sl.upA | apply Sl.upD)))); (· omega); (· (repeat' (first | with_reducible assumption | (with_reducible exact zeros16 _) | (with_reducible exact sl_new1 _ _ _) | (with_reducible first | apply Sl.upE | apply Sl.upA | apply Sl.upD)))); (· omega)) | (with_reducible first | apply Bsc.upE | apply Bsc.upA | apply Bsc.upD)))); (case hq226 => (repeat' (first | with_reducible assumption | (with_reducible exact zeros16 _) | (with_reducible exact sl_new1 _ _ _) | (with_reducible first | apply Sl.upE | apply Sl.upA | apply Sl.upD)))); rintro e w1 ⟨rfl, hxq⟩; obtain ⟨xq, rfl⟩ := hxq.out; clear hxq)
        | fail)
      refine (f3 _ (by (repeat' (first | with_reducible assumption | (with_reducible exact zeros16 _) | (with_reducible exact sl_new1 _ _ _) | (with_reducible first | apply Sl.upE | apply Sl.upA | apply Sl.upD)))) hle.1 (by (repeat' (first | with_reducible assumption | (refine bsc2 ?_ ?_ ?_ ?_ _; (· (repeat' (first | with_reducible assumption | (with_reducible exact zeros16 _) | (with_reducible exact sl_new1 _ _ _) | (with_reducible first | apply Sl.upE | apply Sl.upA | apply Sl.upD)))); (· omega); (· (repeat' (first | with_reducible assumption | (with_reducible exact zeros16 _) | (with_reducible exact sl_new1 _ _ _) | (with_reducible first | apply Sl.upE | apply Sl.upA | apply Sl.upD)))); (· omega)) | (with_reducible first | apply Bsc.upE | apply Bsc.upA | apply Bsc.upD)))) (by (repeat' (first | with_reducible assumption | (with_reducible exact zeros16 _) | (with_reducible exact sl_new1 _ _ _) | (with_reducible first | apply Sl.upE | apply Sl.upA | apply Sl.upD))))).mono ?_
      rintro e W ⟨a3, c3, rfl, hS3, hc3, hx3⟩
      have hxW := (hxw.ext xq).trans hx3
      have hkW := (hS.ext (Ext.of_ext _ xq)).ext hx3
      have hkT := hkW.take 16 (by omega)
      have hpW := hb.ext hxW
      have hRB := (hA.ext hxW).rdB
      have q : (16 : Int) ≤ (ck : Int) := by omega
      go_wp2_with fail
      have hSE : ∀ w', Ext (W) w' → (Ext (W)) w' := (fun _ h => h); have hExt0 : Ext (W) (W).drew := Ext.drew (Ext.refl _); refine wp_region_held_drew (S := Ext (W)) (by kernel_rfl) (hSE _ hExt0) (fun hHeld => ?_)
      refine wpAnyH_take (i := 0) (v := ?v198) rfl (by kernel_rfl) (by kernel_rfl) (by kernel_rfl) (fun _ _ _ h => h) (Or.inl ⟨by rfl, ?hy198⟩) hHeld ?_; (case hy198 => (intro w' hx; simp [go_sem, execOp, *]; (try simp (disch := omega) only [Go.IntWalk.i64_in, Go.IntWalk.rem_in, Go.IntWalk.wrap64_in]); rfl)); (try simp only [List.getElem_toArray, List.getElem_cons_succ, List.getElem_cons_zero, Act.put, List.setIfInBounds_toArray, List.set_cons_succ, List.set_cons_zero])
      refine wpAnyH_take (i := 1) (v := ?v199) rfl (by kernel_rfl) (by kernel_rfl) (by kernel_rfl) (fun _ _ _ h => h) (Or.inl ⟨by rfl, ?hy199⟩) hHeld ?_; (case hy199 => (intro w' hx; simp [go_sem, execOp, *]; (try simp (disch := omega) only [Go.IntWalk.i64_in, Go.IntWalk.rem_in, Go.IntWalk.wrap64_in]); rfl)); (try simp only [List.getElem_toArray, List.getElem_cons_succ, List.getElem_cons_zero, Act.put, List.setIfInBounds_toArray, List.set_cons_succ, List.set_cons_zero])
      refine wpAnyH_take (i := 3) (v := ?v200) rfl (by kernel_rfl) (by kernel_rfl) (by kernel_rfl) (fun _ _ _ h => h) (Or.inl ⟨by rfl, ?hy200⟩) hHeld ?_; (case hy200 => (intro w' hx; simp [go_sem, execOp, *]; (try simp (disch := omega) only [Go.IntWalk.i64_in, Go.IntWalk.rem_in, Go.IntWalk.wrap64_in]); rfl)); (try simp only [List.getElem_toArray, List.getElem_cons_succ, List.getElem_cons_zero, Act.put, List.setIfInBounds_toArray, List.set_cons_succ, List.set_cons_zero])
      refine wpAnyH_take (i := 5) (v := ?v201) rfl (by kernel_rfl) (by kernel_rfl) (by kernel_rfl) (fun _ _ _ h => h) (Or.inl ⟨by rfl, ?hy201⟩) hHeld ?_; (case hy201 => (intro w' hx; simp [go_sem, execOp, *]; (try simp (disch := omega) only [Go.IntWalk.i64_in, Go.IntWalk.rem_in, Go.IntWalk.wrap64_in]); rfl)); (try simp only [List.getElem_toArray, List.getElem_cons_succ, List.getElem_cons_zero, Act.put, List.setIfInBounds_toArray, List.set_cons_succ, List.set_cons_zero])
      refine R5.any_late2 7 9 [[], [0], [], [], [2, 3], [], [5], [2, 3, 4, 5, 6], [0, 1, 2, 3, 4, 5, 6, 7], [0, 1, 2, 3, 4, 5, 6, 7, 8], [0, 1, 2, 3, 4, 5, 6, 7, 8, 9], [0, 1, 2, 3, 4, 5, 6, 7, 8, 9], [0, 1, 2, 3, 4, 5, 6, 7, 8, 9, 10], [0, 1, 2, 3, 4, 5, 6, 7, 8, 9, 10, 11, 12]] [0, 1, 3, 5] #[true, true, true, true, true, true, true, true, true, false, false, false, false, false] 5 hExt0 hSE (by kernel_rfl) (by kernel_rfl) (by kernel_rfl) (by kernel_rfl) (by kernel_rfl) (by kernel_rfl) ?_; simp only [List.take_succ_cons, List.take_zero, List.drop_succ_cons, List.drop_zero, List.take_nil, List.drop_nil, Nat.reduceSub]
      refine R5.VD_taken rfl ?_
      refine R5.VD_taken rfl ?_
      (refine R5.VD_vag rfl (fun p => .slice (p 0).1 0 0) (fun p w'' => ∃ g, (p 0).1 = some ⟨g, 0, none⟩ ∧ OwnB w'' W.heap.size (some ⟨g, 0, none⟩) 0 0 []) (fun p w w' h hx => (let ⟨g, h1, h2⟩ := h; ⟨g, h1, h2.ext hx⟩)) (fun us w' hx hf => ⟨rfl, ?_⟩) ?_; (unfold gives; simp [go_sem, execOp]; exact ⟨fun _ => (some ⟨w'.heap.size, 0, none⟩, 0), rfl, Ext.of_alloc _ _, _, rfl, (OwnB.empty _).mono0 hx.size⟩))
      refine R5.VD_taken rfl ?_
      (refine R5.VD_vag rfl (fun p => .slice (p 0).1 n1 (p 0).2) (fun p w'' => OwnB w'' W.heap.size (p 0).1 n1 (p 0).2 A) (fun p w w' h hx => h.ext hx) (fun us w' hx hf => ⟨rfl, ?_⟩) ?_; (obtain ⟨g, hg, hE⟩ := (hf _ (List.mem_append_right _ (List.mem_singleton_self _)) rfl); obtain ⟨sa, sc, w'', hrun, hO, hx'⟩ := R5.append_empty_bs V8 w' 40 W.heap.size g hE _ n1 c1 A (hRB.ext hx) (by omega) hx.size; exact R5.gives_append rfl (by show Value.slice (us 2 0).1 0 0 = _; rw [hg]) rfl hrun ⟨fun _ => (sa, sc), rfl, hx', hO⟩))
      refine R5.VD_taken rfl ?_
      (refine R5.VD_vag rfl (fun p => .slice (p 0).1 1 1) (fun p w'' => Rd w'' (p 0).1 [.slice a2 n2 c2]) (fun p w w' h hx => h.ext hx) (fun us w' hx hf => ⟨rfl, ?_⟩) ?_; (unfold gives; simp [go_sem, execOp]; exact ⟨fun _ => (some ⟨w'.heap.size, 0, none⟩, 0), rfl, Ext.of_alloc _ _, (Blk.new _ _ _).rd⟩))
      (refine R5.VD_nil ?_; intro us w' hx hf; obtain ⟨x, rfl⟩ := hx.out; (try simp only [Act.put, List.setIfInBounds_toArray, List.set_cons_succ, List.set_cons_zero, wpList_none]); (try simp only [List.mem_cons, List.not_mem_nil, or_false, forall_eq_or_imp, forall_eq, List.nil_append, List.cons_append, List.mem_append, false_or, true_and, and_true] at hf); (try simp only [Nat.reduceAdd, Nat.zero_add] at hf); (try simp only [Nat.reduceAdd, Nat.zero_add]))
      obtain ⟨-, hO1, hR2⟩ := hf
      (refine R5.chain_append_bs hSE V8 rfl rfl _ _ rfl (W.heap.size) _ n1 _ (A) rfl _ 1 1 ([b]) rfl (hO1) (RdB.one hR2 (hpW.ext hx) hb' (hpW.inB _)) (by omega) (hx.size) (Nat.le_refl _) (hx) ?_; intro sa2 sc2 w2 hOa hg2 hB2 hx2)
      have hBs := hOa.bsc
      have hle2 := hOa.le
      have hk2 := hkT.ext hx2
      (refine R5.chain_cons rfl rfl ?_; unfold gives; simp [go_sem, execOp]; (with_reducible refine (hve ?_ ?_ ?_ ?_ ?_ ?hq207 ?hq208 ?hq209 ?hq210 ?hq211).mono ?_); (case hq207 => (repeat' (first | with_reducible assumption | (with_reducible exact zeros16 _) | (with_reducible exact sl_new1 _ _ _) | (with_reducible first | apply Sl.upE | apply Sl.upA | apply Sl.upD)))); (case hq209 => (repeat' (first | with_reducible assumption | (refine bsc2 ?_ ?_ ?_ ?_ _; (· (repeat' (first | with_reducible assumption | (with_reducible exact zeros16 _) | (with_reducible exact sl_new1 _ _ _) | (with_reducible first | apply Sl.upE | apply Sl.upA | apply Sl.upD)))); (· omega); (· (repeat' (first | with_reducible assumption | (with_reducible exact zeros16 _) | (with_reducible exact sl_new1 _ _ _) | (with_reducible first | apply Sl.upE | apply Sl.upA | apply Sl.upD)))); (· omega)) | (with_reducible first | apply Bsc.upE | apply Bsc.upA | apply Bsc.upD)))); (case hq208 => omega); (case hq210 => omega); (case hq211 => omega); rintro e _ ⟨_, _, rfl, hS, hc, hx⟩; obtain ⟨_, rfl⟩ := hx.out; clear hx; refine ⟨_, rfl, hSE _ (by repeat (first | (with_reducible first | exact Ext.refl _ | assumption | apply Ext.alloc | apply Ext.ext | apply Ext.drew | refine Ext.setCell ?_ ?_ _) | (focus (simp [go_sem]; done)))), ?_⟩; (try simp only [List.getElem_toArray, List.getElem_cons_succ, List.getElem_cons_zero, Act.put, List.setIfInBounds_toArray, List.set_cons_succ, List.set_cons_zero]))
      (refine R5.chain_nil ?_)
      refine wpAnyH_take (i := 9) (v := ?v202) rfl (by kernel_rfl) (by kernel_rfl) (by kernel_rfl) (fun _ _ _ h => h) (Or.inl ⟨by rfl, ?hy202⟩) (hSE _ (by repeat (first | (with_reducible first | exact Ext.refl _ | assumption | apply Ext.alloc | apply Ext.ext | apply Ext.drew | refine Ext.setCell ?_ ?_ _) | (focus (simp [go_sem]; done))))) ?_; (case hy202 => (intro w' hx; simp [go_sem, execOp, *]; (try simp (disch := omega) only [Go.IntWalk.i64_in, Go.IntWalk.rem_in, Go.IntWalk.wrap64_in]); rfl)); (try simp only [List.getElem_toArray, List.getElem_cons_succ, List.getElem_cons_zero, Act.put, List.setIfInBounds_toArray, List.set_cons_succ, List.set_cons_zero])
      refine wpAnyH_take (i := 10) (v := ?v203) rfl (by kernel_rfl) (by kernel_rfl) (by kernel_rfl) (fun _ _ _ h => h) (Or.inl ⟨by rfl, ?hy203⟩) (hSE _ (by repeat (first | (with_reducible first | exact Ext.refl _ | assumption | apply Ext.alloc | apply Ext.ext | apply Ext.drew | refine Ext.setCell ?_ ?_ _) | (focus (simp [go_sem]; done))))) ?_; (case hy203 => (intro w' hx; simp [go_sem, execOp, *]; (try simp (disch := omega) only [Go.IntWalk.i64_in, Go.IntWalk.rem_in, Go.IntWalk.wrap64_in]); rfl)); (try simp only [List.getElem_toArray, List.getElem_cons_succ, List.getElem_cons_zero, Act.put, List.setIfInBounds_toArray, List.set_cons_succ, List.set_cons_zero])
      refine wpAnyH_take (i := 11) (v := ?v204) rfl (by kernel_rfl) (by kernel_rfl) (by kernel_rfl) (fun _ _ _ h => h) (Or.inl ⟨by rfl, ?hy204⟩) (hSE _ (by repeat (first | (with_reducible first | exact Ext.refl _ | assumption | apply Ext.alloc | apply Ext.ext | apply Ext.drew | refine Ext.setCell ?_ ?_ _) | (focus (simp [go_sem]; done))))) ?_; (case hy204 => (intro w' hx; simp [go_sem, execOp, *]; (try simp (disch := omega) only [Go.IntWalk.i64_in, Go.IntWalk.rem_in, Go.IntWalk.wrap64_in]); rfl)); (try simp only [List.getElem_toArray, List.getElem_cons_succ, List.getElem_cons_zero, Act.put, List.setIfInBounds_toArray, List.set_cons_succ, List.set_cons_zero])
      refine wpAnyH_take (i := 12) (v := ?v205) rfl (by kernel_rfl) (by kernel_rfl) (by kernel_rfl) (fun _ _ _ h => h) (Or.inl ⟨by rfl, ?hy205⟩) (hSE _ (by repeat (first | (with_reducible first | exact Ext.refl _ | assumption | apply Ext.alloc | apply Ext.ext | apply Ext.drew | refine Ext.setCell ?_ ?_ _) | (focus (simp [go_sem]; done))))) ?_; (case hy205 => (intro w' hx; simp [go_sem, execOp, *]; (try simp (disch := omega) only [Go.IntWalk.i64_in, Go.IntWalk.rem_in, Go.IntWalk.wrap64_in]); rfl)); (try simp only [List.getElem_toArray, List.getElem_cons_succ, List.getElem_cons_zero, Act.put, List.setIfInBounds_toArray, List.set_cons_succ, List.set_cons_zero])
      refine wpAnyH_take (i := 13) (v := ?v206) rfl (by kernel_rfl) (by kernel_rfl) (by kernel_rfl) (fun _ _ _ h => h) (Or.inl ⟨by rfl, ?hy206⟩) (hSE _ (by repeat (first | (with_reducible first | exact Ext.refl _ | assumption | apply Ext.alloc | apply Ext.ext | apply Ext.drew | refine Ext.setCell ?_ ?_ _) | (focus (simp [go_sem]; done))))) ?_; (case hy206 => (intro w' hx; simp [go_sem, execOp, *]; (try simp (disch := omega) only [Go.IntWalk.i64_in, Go.IntWalk.rem_in, Go.IntWalk.wrap64_in]); rfl)); (try simp only [List.getElem_toArray, List.getElem_cons_succ, List.getElem_cons_zero, Act.put, List.setIfInBounds_toArray, List.set_cons_succ, List.set_cons_zero])
      refine wpAnyH_done (by kernel_rfl) ?_ _
      rename_i a5 c5 x5
      have hx5 := hx2.ext x5
      have hS16 := (hS3.take 16 (by omega)).ext hx5
      rw [h16t.out] at hS16
      have hS3' := hS3.ext hx5
      have hk5 := hkW.ext hx5
      have hb5 := hpW.ext hx5
      have hxw5 := hxW.trans hx5
      have hS5 := hS
      have hc5 := hc
      clear hS hc hO1 hR2 hOa hg2 hB2 hx2 hBs hk2 hS3 hkW hpW hxW hRB hkT hx5 hx hSE hExt0 hHeld
      generalize w2.ext x5 = W5 at *
      have q1 : (16 : Int) ≤ (c3 : Int) := by omega
      have q2 : ((n2 + 16 : Nat) : Int) = (n2 : Int) + 16 := by omega
      have HQ := Lib.hid q2
      clear q2
      go_wp2_with (first
        | (go_at_call 21; (with_reducible refine (same_any ?_ ?_ ?_ ?_ ?_ ?_ ?_ ?_ ?_ ?hq227 ?hq228).mono ?_); (case hq227 => (repeat' (first | with_reducible assumption | (with_reducible exact zeros16 _) | (with_reducible exact sl_new1 _ _ _) | (with_reducible first | apply Sl.upE | apply Sl.upA | apply Sl.upD)))); (case hq228 => (repeat' (first | with_reducible assumption | (with_reducible exact zeros16 _) | (with_reducible exact sl_new1 _ _ _) | (with_reducible first | apply Sl.upE | apply Sl.upA | apply Sl.upD)))); rintro e w1 ⟨rfl, hxq⟩; obtain ⟨xq, rfl⟩ := hxq.out; clear hxq)
        | fail)
      have hx6 := Ext.of_ext W5 xq
      have hxw6 := hxw5.trans hx6
      have hS16 := hS16.ext hx6
      have hS6 := hS5.ext hx6
      have hSx := (hS3'.drop c3 16 hc3).ext hx6
      rw [h16d.out, show n2 + 16 - 16 = n2 by omega] at hSx
      have hb6 := hb5.ext hx6
      obtain ⟨bk, ok, rfl⟩ : ∃ bk ok, ak = some ⟨bk, ok, none⟩ := (let ⟨bk, ok, h, _⟩ := hk5.at 0 (by omega); ⟨bk, ok, h⟩)
      have hk6 := (sl_from hk5 hle.1 (i := 16) (by omega)).ext hx6
      have q4 : ¬ ck = 16 := by omega
      have hj2 : (joinL [tg]).length = 16 := by rw [joinL1]; exact htl
      clear hk5 hb5 hS3' hS5 hxw5 hx6
      generalize W5.ext xq = W6 at *
      (with_reducible refine (join_any _ _ _ [tg] _ (bss1 ?hj1 _) (by omega) 16 hj2 (by omega)).mono ?_)
      case hj1 => exact (by (repeat' (first | with_reducible assumption | (with_reducible exact zeros16 _) | (with_reducible exact sl_new1 _ _ _) | (with_reducible first | apply Sl.upE | apply Sl.upA | apply Sl.upD))))
      rintro e w7 ⟨a7, c7, rfl, hO7, hx7⟩
      rw [joinL1] at hO7
      have hO7 := hO7.mono (base' := W6.heap.size) (by simp)
      have hx7 : Ext W6 w7 := Ext.trans (Ext.of_alloc _ _) hx7
      obtain ⟨g, rfl, hg, hgb, hcell8, hfr8, _⟩ := hO7.at 8 (by omega)
      obtain ⟨_, e1, _, _, hcell12, hfr12, _⟩ := hO7.at 12 (by omega)
      injection e1 with e1
      injection e1 with e1 _
      subst e1
      have hle7 := hO7.le
      have hO2 := hO7.put 8 (by omega) (at' tg 8 &&& 127)
      have hO3 := hO2.put 12 (by omega) (at' tg 12 &&& 127)
      rw [← hC.out] at hO3
      have hx8 : Ext W6 ((w7.setCell ⟨g, 8, none⟩ (.int .u8 (n8 (at' tg 8 &&& 127)))).setCell ⟨g, 12, none⟩ (.int .u8 (n8 (at' tg 12 &&& 127)))) := Ext.setCell (Ext.setCell hx7 hg _) hg _
      rw [show tg.getD 8 0 = at' tg 8 from rfl] at hcell8
      rw [show tg.getD 12 0 = at' tg 12 from rfl] at hcell12
      clear hO2 hO7 hj2
      go_wp2_with fail
      go_region
      have hx9 := hx8.drew
      have hO9 := hO3.ext (Ext.drew (Ext.refl _))
      have hS9 := hO9.sl
      have hk9 := hk6.ext hx9
      have hb9 := hb6.ext hx9
      have hSx9 := hSx.ext hx9
      clear hO3 hx8 hcell8 hcell12 hfr8 hfr12 hk6 hb6 hSx hS16 hS6
      generalize (World.setCell _ _ _).drew = W9 at *
      go_wp2_with (first
        | (go_at_call 28; (with_reducible refine (hstr ?_ ?_ ?_ ?_ ?_ ?hq212 ?hq213 ?hq214 ?hq215 ?hq216 ?hq217).mono ?_); (case hq212 => (repeat' (first | with_reducible assumption | (with_reducible exact zeros16 _) | (with_reducible exact sl_new1 _ _ _) | (with_reducible first | apply Sl.upE | apply Sl.upA | apply Sl.upD)))); (case hq214 => (repeat' (first | with_reducible assumption | (with_reducible exact zeros16 _) | (with_reducible exact sl_new1 _ _ _) | (with_reducible first | apply Sl.upE | apply Sl.upA | apply Sl.upD)))); (case hq216 => (repeat' (first | with_reducible assumption | (with_reducible exact zeros16 _) | (with_reducible exact sl_new1 _ _ _) | (with_reducible first | apply Sl.upE | apply Sl.upA | apply Sl.upD)))); (case hq213 => omega); (case hq215 => omega); (case hq217 => omega); rintro e _ ⟨_, _, rfl, hS, hc, hx⟩; obtain ⟨_, rfl⟩ := hx.out; clear hx)
        | (go_at_call 46; refine (known6_any _).mono ?_; rintro e w1 ⟨rfl, hxq⟩; obtain ⟨xq, rfl⟩ := hxq.out; clear hxq)
        | (go_at_call 21; (with_reducible refine (same_any ?_ ?_ ?_ ?_ ?_ ?_ ?_ ?_ ?_ ?hq229 ?hq230).mono ?_); (case hq229 => (repeat' (first | with_reducible assumption | (with_reducible exact zeros16 _) | (with_reducible exact sl_new1 _ _ _) | (with_reducible first | apply Sl.upE | apply Sl.upA | apply Sl.upD)))); (case hq230 => (repeat' (first | with_reducible assumption | (with_reducible exact zeros16 _) | (with_reducible exact sl_new1 _ _ _) | (with_reducible first | apply Sl.upE | apply Sl.upA | apply Sl.upD)))); rintro e w1 ⟨rfl, hxq⟩; obtain ⟨xq, rfl⟩ := hxq.out; clear hxq)
        | fail)
      go_returns
      exact ⟨rfl, (hxw6.trans hx9).trans (by repeat (first | (with_reducible first | exact Ext.refl _ | assumption | apply Ext.alloc | apply Ext.ext | apply Ext.drew | refine Ext.setCell ?_ ?_ _) | (focus (simp [go_sem]; done))))⟩
end Go.Proofs.Ythooaeeajeajnaa
