/- Lemmas of this claim, several texts joined. -/
import Derived.Test.YtdmifbfgeeldnaaGreatZ6
import Derived.Test.YtdmifbfgeeldnaaGreatZ8
import Derived.Test.YtdmifbfgeeldnaaGreatZ9
import Derived.Test.YtdmifbfgeeldnaaGreatZ10
import Derived.Test.YtdmifbfgeeldnaaGreatZ29
import Derived.Test.YtdmifbfgeeldnaaGreatZ30
import Derived.Test.YtdmifbfgeeldnaaGreatZ31
import Derived.Test.YtdmifbfgeeldnaaGreatZ35
set_option linter.unusedVariables false
set_option linter.unusedSimpArgs false
/- sectimeworld.Field, Fields. -/
namespace Go.Pkt
def kindN (s : Nat) : Int := [260, 516, 772, 8192].getD s 0
def wfld (x : Int × List UInt8) (m : Nat) : Fld := (kindN (x.1 % 4).toNat, x.2.take m)
def wflds (L : List (Int × List UInt8)) : List Fld := (L.take 4).map fun x => wfld x 60
end Go.Pkt
namespace Go.Proofs.YtdmifbfgeeldnaaGreat
open Go.RowKit Go.Sec Go.Oct Go.Pkt BigFrame

def FldOut (f : Fld) (w : World) (e : Ending) (w' : World) : Prop := ∃ a c, e = .returned (.agg #[.int .i64 f.1, .slice a f.2.length c]) ∧ Own w' 0 a f.2.length c f.2 ∧ Ext w w'
theorem four_at {w : World} {b s : Nat} (h : Rd w (some ⟨b, 0, none⟩) [.int .i64 260, .int .i64 516, .int .i64 772, .int .i64 8192]) (hs : (s : Int) < 4) : ∃ p : Par, (some (⟨b, s, none⟩ : Addr)) = (p 0).1 ∧ Ext w w ∧ ∃ b, (p 0).1 = some ⟨b, s, none⟩ ∧ BlkLt b w ∧ w.cell? ⟨b, s, none⟩ = some (.int .i64 (kindN s)) := by
  obtain ⟨b', o, e, hb, hc⟩ := h.at s (by simp; omega)
  injection e with e; injection e with e1 e2
  subst e1
  refine ⟨fun _ => (some ⟨b, s, none⟩, 0), rfl, Ext.refl _, b, rfl, hb, ?_⟩
  rw [← e2, Nat.zero_add] at hc
  rw [hc]
  have : s = 0 ∨ s = 1 ∨ s = 2 ∨ s = 3 := by omega
  rcases this with rfl | rfl | rfl | rfl <;> rfl
set_option maxRecDepth 100000 in
set_option maxHeartbeats 2000000 in
theorem wfield_any (v : Int) (a : Option Addr) (n c : Nat) (l : List UInt8) (w : World) (h : Sl w a n l) (hc : n ≤ c) :
    Calls Tryz.prog 37 #[.int .i64 v, .slice a n c, .int .i64 60] w (FldOut (wfld (v, l) 60) w) := by
  obtain ⟨s, hs, hsv⟩ := nmod v 4 (by omega)
  have hsv : v % 4 = (s : Int) := hsv
  have hwf : wfld (v, l) 60 = (kindN s, l.take 60) := by unfold wfld; simp only; rw [hsv]; rfl
  rw [hwf]
  have hl := h.len
  have hln : (l.take 60).length = min n 60 := by rw [List.length_take, hl]; omega
  have hin := fun W => within_any v 4 W (by omega) (by omega)
  rw [hsv] at hin
  have hfw := fun W H => few_any a n c l 60 (show (60 : Int) = ((60 : Nat) : Int) from rfl) W H hc (by omega)
  have hs0 : (0 : Int) ≤ (s : Int) := by omega
  have hs4 : (s : Int) < 4 := by omega
  go_enter Tryz.func37, Tryz.ntmps37
  go_wp2_with fail
  refine nameW ?_
  intro W hW
  have hE : Ext w W := by rw [hW]; exact (by repeat (first | (with_reducible first | exact Ext.refl _ | assumption | apply Ext.alloc | apply Ext.ext | apply Ext.drew | refine Ext.setCell ?_ ?_ _) | (focus (simp [go_sem]; done))))
  have hB : Blk W w.heap.size 66 [.int .i64 0, .slice none 0 0] := by rw [hW]; exact (by repeat (first | assumption | (refine Blk.newAt _ _ _ _ ?_; first | rfl | (simp only [World.size_alloc]; done)) | apply Blk.ext | apply Blk.alloc | (refine Blk.other ?_ ?_ _; rotate_left; (simp <;> omega))))
  clear hW
  have h := h.ext hE
  refine wp_region_vague 9 [[], [], [1], [0, 1, 2], [0, 1, 2, 3], [], [], [1, 2, 5, 6], [0, 1, 2, 3, 4, 5, 6, 7], [0, 1, 2, 3, 4, 5, 6, 7, 8]] (by kernel_rfl) (by kernel_rfl) (by kernel_rfl) (by kernel_rfl) ?_; simp only [List.take_succ_cons, List.take_zero, List.drop_succ_cons, List.drop_zero, List.take_nil, List.drop_nil]
  (refine VD_vag (fun p => .slice (p 0).1 4 4) (fun p w'' => ∃ b, (p 0).1 = some ⟨b, 0, none⟩ ∧ Rd w'' (some ⟨b, 0, none⟩) [.int .i64 260, .int .i64 516, .int .i64 772, .int .i64 8192]) (fun p w w' ⟨b, h1, h2⟩ hx => ⟨b, h1, h2.ext hx⟩) (fun us w' hx hf => ⟨rfl, ?_⟩) ?_; (unfold gives; simp [go_sem, execOp]; exact ⟨fun _ => (some ⟨w'.heap.size, 0, none⟩, 0), rfl, Ext.of_alloc _ _, _, rfl, (Blk.new _ _ _).rd⟩))
  (repeat (apply VD_der; (case h => (intro us w' hx hf; obtain ⟨x, rfl⟩ := hx.out; refine ⟨rfl, ?_⟩; simp [go_sem, execOp, *]; (try simp (disch := omega) only [Go.IntWalk.i64_in, Go.IntWalk.rem_in, Go.IntWalk.wrap64_in]); rfl)); (try simp only [Act.put, List.setIfInBounds_toArray, List.set_cons_succ, List.set_cons_zero])))
  (refine VD_vag (fun _ => .int .i64 ((s : Nat) : Int)) (fun _ _ => True) (fun _ _ _ _ _ => trivial) (fun us w' hx hf => ⟨rfl, ?_⟩) ?_; (unfold gives; simp [go_sem, execOp]; refine (hin _).mono ?_; rintro e w1 ⟨rfl, hx1⟩; first | exact ⟨rfl, hx1⟩ | simpa using hx1))
  (refine VD_vag (fun p => .pointer (p 0).1) (fun p w'' => ∃ b, (p 0).1 = some ⟨b, s, none⟩ ∧ BlkLt b w'' ∧ w''.cell? ⟨b, s, none⟩ = some (.int .i64 (kindN s))) (fun p w w' ⟨b, h1, h2, h3⟩ hx => ⟨b, h1, ⟨Nat.lt_of_lt_of_le h2.lt hx.size⟩, (hx.cell (p := ⟨b, s, none⟩) h2.lt).trans h3⟩) (fun us w' hx hf => ⟨rfl, ?_⟩) ?_; (unfold gives; obtain ⟨b, e1, e2⟩ := (hf _ (List.mem_append_left _ (List.mem_append_right _ (List.mem_singleton_self _))) rfl); simp [go_sem, execOp, e1, hs0, hs4]; exact four_at e2 hs4))
  (refine VD_vag (fun _ => .int .i64 (kindN s)) (fun _ _ => True) (fun _ _ _ _ _ => trivial) (fun us w' hx hf => ⟨rfl, ?_⟩) ?_; (unfold gives; obtain ⟨b, e1, e2, e3⟩ := (hf _ (List.mem_append_right _ (List.mem_singleton_self _)) rfl); haveI := e2; simp [go_sem, execOp, e1, e3]; exact Ext.refl _))
  (repeat (apply VD_der; (case h => (intro us w' hx hf; obtain ⟨x, rfl⟩ := hx.out; refine ⟨rfl, ?_⟩; simp [go_sem, execOp, *]; (try simp (disch := omega) only [Go.IntWalk.i64_in, Go.IntWalk.rem_in, Go.IntWalk.wrap64_in]); rfl)); (try simp only [Act.put, List.setIfInBounds_toArray, List.set_cons_succ, List.set_cons_zero])))
  (refine VD_vag (fun p => .slice (p 0).1 (min n 60) (p 0).2) (fun p w'' => Own w'' 0 (p 0).1 (min n 60) (p 0).2 (l.take 60)) (fun p w w' h hx => h.ext hx) (fun us w' hx hf => ⟨rfl, ?_⟩) ?_; (unfold gives; simp [go_sem, execOp]; exact vag_fresh (Nat.zero_le _) (hfw _ (h.ext hx))))
  (repeat (apply VD_der; (case h => (intro us w' hx hf; obtain ⟨x, rfl⟩ := hx.out; refine ⟨rfl, ?_⟩; simp [go_sem, execOp, *]; (try simp (disch := omega) only [Go.IntWalk.i64_in, Go.IntWalk.rem_in, Go.IntWalk.wrap64_in]); rfl)); (try simp only [Act.put, List.setIfInBounds_toArray, List.set_cons_succ, List.set_cons_zero])))
  (refine VD_nil ?_; intro us w' hx hf; obtain ⟨x, rfl⟩ := hx.out; (try simp only [Act.put, List.setIfInBounds_toArray, List.set_cons_succ, List.set_cons_zero, wpList_none]); (try simp only [List.mem_cons, List.not_mem_nil, or_false, forall_eq_or_imp, forall_eq, List.nil_append, List.cons_append, List.mem_append, false_or, true_and, and_true] at hf); (try simp only [Nat.reduceAdd, Nat.zero_add] at hf); (try simp only [Nat.reduceAdd, Nat.zero_add]))
  obtain ⟨-, -, hO⟩ := hf
  obtain ⟨a7, ha7⟩ : ∃ a, (us 7 0).1 = a := ⟨_, rfl⟩
  obtain ⟨c7, hc7⟩ : ∃ a, (us 7 0).2 = a := ⟨_, rfl⟩
  rw [ha7] at hO ⊢
  rw [hc7] at hO ⊢
  clear ha7 hc7
  have hxx : Ext W (W.ext x) := Ext.of_ext _ _
  have hB := hB.extB hxx
  have hE := hE.trans hxx
  generalize W.ext x = W6 at *
  haveI := hB.blt
  clear hxx hin hfw
  go_wp2_with (first
    | (refine wpList_store_arr (RF2) rfl _ _ rfl (w.heap.size) (0) rfl ([.int .i64 (kindN s), .slice a7 (min n 60) c7]) rfl (66) _ (hB) (rfl) (by simp) ((by simp; repeat' (first | rfl | constructor))) ?_; intro V hV hMV)
    | fail)
  refine bodyPost_ret (results_arr Tryz.results37 (RF2) _ _ (w.heap.size) (0) ([.int .i64 (kindN s), .slice a7 (min n 60) c7]) rfl (hV.rd) (rfl)) rfl ?_
  have hOV := hO.mutNe hMV (own_type hO.2 hB (by decide))
  exact ⟨a7, c7, by rw [hln], by rw [hln]; exact hOV, Below.trans hE (hMV.below (Nat.le_refl _) hE.size)⟩

theorem wflds_length (L : List (Int × List UInt8)) : (wflds L).length = min L.length 4 := by unfold wflds; rw [List.length_map, List.length_take]; omega
set_option maxRecDepth 100000 in
set_option maxHeartbeats 2000000 in
theorem wfields_any (a : Option Addr) (n c : Nat) (L : List (Int × List UInt8)) (w : World) (h : Ib w a n L) :
    Calls Tryz.prog 9 #[.slice a n c] w fun e w' => ∃ b d, e = .returned (.slice b (wflds L).length d) ∧ OwnI 66 w' w.heap.size b (wflds L).length d (wflds L) ∧ Ext w w' := by
  have hl := h.len
  have hwl := wflds_length L
  rw [hl] at hwl
  have hts : ∀ k x, L[k]? = some x → k < 4 → (wflds L).take (k + 1) = (wflds L).take k ++ [wfld x 60] := fun k x hx h4 => by
    obtain ⟨hk, rfl⟩ := List.getElem?_eq_some_iff.1 hx
    have hk2 : k < (wflds L).length := by omega
    rw [List.take_succ_eq_append_getElem hk2]
    congr 2
    unfold wflds
    simp
  obtain ⟨F, hF⟩ : ∃ F, wflds L = F := ⟨_, rfl⟩
  rw [hF] at hts hwl ⊢
  clear hF
  obtain ⟨m, hm⟩ : ∃ m, min n 4 = m := ⟨_, rfl⟩
  rw [hm] at hwl
  go_enter Tryz.func9, Tryz.ntmps9
  go_wp2_with fail
  go_loopw [3, 4] (fun v3 v4 wr => ∃ (k : Nat) (sa : Option Addr) (sc : Nat), k ≤ m ∧ v4 = .int .i64 k ∧ v3 = .slice sa k sc ∧ OwnI 66 wr w.heap.size sa k sc (F.take k) ∧ Ext w wr) (fun _ v4 _ => m - (intOf v4).toNat)
  case atStart => exact ⟨0, none, 0, by omega, rfl, rfl, OwnI.nil _ _ _, Ext.refl _⟩
  case round =>
    obtain ⟨k, sa, sc, hk, rfl, rfl, hO, hx⟩ := hrel
    by_cases hlt : k < m
    · obtain ⟨x, hxi⟩ : ∃ x, L[k]? = some x := ⟨_, List.getElem?_eq_getElem (by omega)⟩
      obtain ⟨b0, o0, g', c', rfl, hbw, hw0, hw1, hSk, hck⟩ := h.at k (by omega) _ hxi
      have hb0 : BlkLt b0 wr := ⟨Nat.lt_of_lt_of_le hbw.lt hx.size⟩
      have hc0 := (hx.cell (p := ⟨b0, _, none⟩) hbw.lt).trans hw0
      have hc1 := (hx.cell (p := ⟨b0, _, none⟩) hbw.lt).trans hw1
      have hSk := hSk.ext hx
      have i0 : (0 : Int) ≤ (k : Int) := by omega
      have i1 : (k : Int) < (n : Int) := by omega
      have i2 : (k : Int) < 4 := by omega
      have hF1 := Lib.hid (hts k x hxi (by omega))
      haveI := hb0
      have hfd : ∀ W, Sl W g' x.2.length x.2 → Calls Tryz.prog 37 #[.int .i64 x.1, .slice g' x.2.length c', .int .i64 60] W (FldOut (wfld x 60) W) := fun W H => wfield_any x.1 g' x.2.length c' x.2 W H hck
      generalize wfld x 60 = f at *
      go_wp2_with fail
      have hcc : ∀ w', Ext wr w' → w'.cell? ⟨b0, o0 + k * 2, none⟩ = some (.int .i64 x.1) ∧ w'.cell? ⟨b0, o0 + k * 2 + 1, none⟩ = some (.slice g' x.2.length c') := fun w' hx => ⟨(hx.cell (p := ⟨b0, _, none⟩) hb0.lt).trans hc0, (hx.cell (p := ⟨b0, _, none⟩) hb0.lt).trans hc1⟩
      have hSE : ∀ w', Ext (wr) w' → (fun w' => w'.cell? ⟨b0, o0 + k * 2, none⟩ = some (.int .i64 x.1) ∧ w'.cell? ⟨b0, o0 + k * 2 + 1, none⟩ = some (.slice g' x.2.length c')) w' := hcc; have hExt0 : Ext (wr) (wr).drew := Ext.drew (Ext.refl _); refine wp_region_held_drew (S := fun w' => w'.cell? ⟨b0, o0 + k * 2, none⟩ = some (.int .i64 x.1) ∧ w'.cell? ⟨b0, o0 + k * 2 + 1, none⟩ = some (.slice g' x.2.length c')) (by kernel_rfl) (hSE _ hExt0) (fun hHeld => ?_)
      refine wpAnyH_take (i := 0) (v := ?v144) rfl (by kernel_rfl) (by kernel_rfl) (by kernel_rfl) (fun _ _ _ h => h) (Or.inl ⟨by rfl, ?hy144⟩) hHeld ?_; (case hy144 => (intro w' hx; simp [go_sem, execOp, *]; (try simp (disch := omega) only [Go.IntWalk.i64_in, Go.IntWalk.rem_in, Go.IntWalk.wrap64_in]); rfl)); (try simp only [List.getElem_toArray, List.getElem_cons_succ, List.getElem_cons_zero, Act.put, List.setIfInBounds_toArray, List.set_cons_succ, List.set_cons_zero])
      refine wpAnyH_take (i := 1) (v := ?v145) rfl (by kernel_rfl) (by kernel_rfl) (by kernel_rfl) (fun _ _ _ h => h) (Or.inl ⟨by rfl, ?hy145⟩) hHeld ?_; (case hy145 => (intro w' hx; simp [go_sem, execOp, *]; (try simp (disch := omega) only [Go.IntWalk.i64_in, Go.IntWalk.rem_in, Go.IntWalk.wrap64_in]); rfl)); (try simp only [List.getElem_toArray, List.getElem_cons_succ, List.getElem_cons_zero, Act.put, List.setIfInBounds_toArray, List.set_cons_succ, List.set_cons_zero])
      refine wpAnyH_take (i := 2) (v := ?v146) rfl (by kernel_rfl) (by kernel_rfl) (by kernel_rfl) (fun _ _ _ h => h) (Or.inl ⟨by rfl, ?hy146⟩) hHeld ?_; (case hy146 => (intro w' hx; simp [go_sem, execOp, *]; (try simp (disch := omega) only [Go.IntWalk.i64_in, Go.IntWalk.rem_in, Go.IntWalk.wrap64_in]); rfl)); (try simp only [List.getElem_toArray, List.getElem_cons_succ, List.getElem_cons_zero, Act.put, List.setIfInBounds_toArray, List.set_cons_succ, List.set_cons_zero])
      refine wpAnyH_take (i := 3) (v := ?v147) rfl (by kernel_rfl) (by kernel_rfl) (by kernel_rfl) (fun _ _ _ h => h) (Or.inl ⟨by rfl, ?hy147⟩) hHeld ?_; (case hy147 => (intro w' hx; simp [go_sem, execOp, *]; (try simp (disch := omega) only [Go.IntWalk.i64_in, Go.IntWalk.rem_in, Go.IntWalk.wrap64_in]); rfl)); (try simp only [List.getElem_toArray, List.getElem_cons_succ, List.getElem_cons_zero, Act.put, List.setIfInBounds_toArray, List.set_cons_succ, List.set_cons_zero])
      refine wpAnyH_take (i := 4) (v := ?v148) rfl (by kernel_rfl) (by kernel_rfl) (by kernel_rfl) (fun _ _ _ h => h) (Or.inl ⟨by rfl, ?hy148⟩) hHeld ?_; (case hy148 => (intro w' hx; simp [go_sem, execOp, *]; (try simp (disch := omega) only [Go.IntWalk.i64_in, Go.IntWalk.rem_in, Go.IntWalk.wrap64_in]); rfl)); (try simp only [List.getElem_toArray, List.getElem_cons_succ, List.getElem_cons_zero, Act.put, List.setIfInBounds_toArray, List.set_cons_succ, List.set_cons_zero])
      refine wpAnyH_take (i := 5) (v := ?v149) rfl (by kernel_rfl) (by kernel_rfl) (by kernel_rfl) (fun _ _ _ h => h) (Or.inl ⟨by rfl, ?hy149⟩) hHeld ?_; (case hy149 => (intro w' hx; simp [go_sem, execOp, *]; (try simp (disch := omega) only [Go.IntWalk.i64_in, Go.IntWalk.rem_in, Go.IntWalk.wrap64_in]); rfl)); (try simp only [List.getElem_toArray, List.getElem_cons_succ, List.getElem_cons_zero, Act.put, List.setIfInBounds_toArray, List.set_cons_succ, List.set_cons_zero])
      refine wpAnyH_take (i := 6) (v := ?v150) rfl (by kernel_rfl) (by kernel_rfl) (by kernel_rfl) (fun _ _ _ h => h) (Or.inl ⟨by rfl, ?hy150⟩) hHeld ?_; (case hy150 => (intro w' hx; simp [go_sem, execOp, *]; (try simp (disch := omega) only [Go.IntWalk.i64_in, Go.IntWalk.rem_in, Go.IntWalk.wrap64_in]); rfl)); (try simp only [List.getElem_toArray, List.getElem_cons_succ, List.getElem_cons_zero, Act.put, List.setIfInBounds_toArray, List.set_cons_succ, List.set_cons_zero])
      refine wpAnyH_take (i := 7) (v := ?v151) rfl (by kernel_rfl) (by kernel_rfl) (by kernel_rfl) (fun _ _ _ h => h) (Or.inl ⟨by rfl, ?hy151⟩) hHeld ?_; (case hy151 => (intro w' hx; simp [go_sem, execOp, *]; (try simp (disch := omega) only [Go.IntWalk.i64_in, Go.IntWalk.rem_in, Go.IntWalk.wrap64_in]); rfl)); (try simp only [List.getElem_toArray, List.getElem_cons_succ, List.getElem_cons_zero, Act.put, List.setIfInBounds_toArray, List.set_cons_succ, List.set_cons_zero])
      refine wpAnyH_take (i := 8) (v := ?v152) rfl (by kernel_rfl) (by kernel_rfl) (by kernel_rfl) (fun _ _ _ h => h) (Or.inl ⟨by rfl, ?hy152⟩) hHeld ?_; (case hy152 => (intro w' hx; simp [go_sem, execOp, *]; (try simp (disch := omega) only [Go.IntWalk.i64_in, Go.IntWalk.rem_in, Go.IntWalk.wrap64_in]); rfl)); (try simp only [List.getElem_toArray, List.getElem_cons_succ, List.getElem_cons_zero, Act.put, List.setIfInBounds_toArray, List.set_cons_succ, List.set_cons_zero])
      refine wpAnyH_take (i := 9) (v := ?v153) rfl (by kernel_rfl) (by kernel_rfl) (by kernel_rfl) (fun _ _ _ h => h) (Or.inl ⟨by rfl, ?hy153⟩) hHeld ?_; (case hy153 => (intro w' hx; simp [go_sem, execOp, *]; (try simp (disch := omega) only [Go.IntWalk.i64_in, Go.IntWalk.rem_in, Go.IntWalk.wrap64_in]); rfl)); (try simp only [List.getElem_toArray, List.getElem_cons_succ, List.getElem_cons_zero, Act.put, List.setIfInBounds_toArray, List.set_cons_succ, List.set_cons_zero])
      refine wpAnyH_take (i := 10) (v := ?v154) rfl (by kernel_rfl) (by kernel_rfl) (by kernel_rfl) (fun _ _ _ h => h) (Or.inl ⟨by rfl, ?hy154⟩) hHeld ?_; (case hy154 => (intro w' hx; simp [go_sem, execOp, *]; (try simp (disch := omega) only [Go.IntWalk.i64_in, Go.IntWalk.rem_in, Go.IntWalk.wrap64_in]); rfl)); (try simp only [List.getElem_toArray, List.getElem_cons_succ, List.getElem_cons_zero, Act.put, List.setIfInBounds_toArray, List.set_cons_succ, List.set_cons_zero])
      (refine R5.any_only 11 (by kernel_rfl) rfl rfl ?_; unfold gives; simp [go_sem, execOp])
      (with_reducible refine (hfd _ (hSk.ext hExt0)).mono ?_)
      rintro e w5 ⟨a5, c5, rfl, hO5, hx5⟩
      have hx5 : Ext wr w5 := hExt0.trans hx5
      refine ⟨_, rfl, hSE _ hx5, ?_⟩
      (try simp only [List.getElem_toArray, List.getElem_cons_succ, List.getElem_cons_zero, Act.put, List.setIfInBounds_toArray, List.set_cons_succ, List.set_cons_zero])
      (refine R5.any_only 12 (by kernel_rfl) rfl rfl ?_; unfold gives; simp [go_sem, execOp])
      have hx6 := hx5.alloc (.cells #[.int .i64 f.1, .slice a5 f.2.length c5] 66)
      refine ⟨hSE _ hx6, ?_⟩
      (try simp only [List.getElem_toArray, List.getElem_cons_succ, List.getElem_cons_zero, Act.put, List.setIfInBounds_toArray, List.set_cons_succ, List.set_cons_zero])
      refine R5.only_append_i VF 13 (by kernel_rfl) rfl rfl _ _ rfl w.heap.size sa k sc _ rfl w5.heap.size 1 f.1 a5 f.2.length c5 f.2 rfl (hO.ext hx6) (Blk.new w5 #[.int .i64 f.1, .slice a5 f.2.length c5] 66).rd (hO5.sl.ext (Ext.of_alloc _ _)) hO5.le.1 ((hO5.ext (Ext.of_alloc _ _)).inT (by decide)) (by omega) (hx.trans hx6).size ?_
      intro sa' sc' w6 hO6 hg6 hb6
      have hE6 : Ext w w6 := Below.trans (hx.trans hx6) hb6
      have hS6 : w6.cell? ⟨b0, o0 + k * 2, none⟩ = some (.int .i64 x.1) ∧ w6.cell? ⟨b0, o0 + k * 2 + 1, none⟩ = some (.slice g' x.2.length c') := ⟨(hE6.cell (p := ⟨b0, _, none⟩) hbw.lt).trans hw0, (hE6.cell (p := ⟨b0, _, none⟩) hbw.lt).trans hw1⟩
      refine ⟨hS6, ?_⟩
      (try simp only [List.getElem_toArray, List.getElem_cons_succ, List.getElem_cons_zero, Act.put, List.setIfInBounds_toArray, List.set_cons_succ, List.set_cons_zero])
      (refine R5.any_only 14 (by kernel_rfl) rfl rfl ?_; unfold gives; simp [go_sem, execOp])
      refine ⟨hS6, ?_⟩
      (try simp only [List.getElem_toArray, List.getElem_cons_succ, List.getElem_cons_zero, Act.put, List.setIfInBounds_toArray, List.set_cons_succ, List.set_cons_zero])
      refine wpAnyH_done (by kernel_rfl) ?_ _
      clear hSE hExt0 hcc hS6 hw0 hw1 hc0 hc1 hfd
      go_wp2
      go_roundw
      case rel => exact ⟨k + 1, sa', sc', by omega, by go_num, rfl, by rw [hF1.out]; exact hO6, hE6⟩
      case measure => simp [intOf]; omega
    · obtain rfl : k = m := by omega
      have hFk : F.take k = F := List.take_of_length_le (by omega)
      rw [hFk] at hO
      by_cases h4 : k < n
      · have i1 : (k : Int) < (n : Int) := by omega
        have i2 : ¬ (k : Int) < 4 := by omega
        clear hm hlt
        go_wp2_with fail
        go_ret
        exact ⟨sa, sc, rfl, hO, hx⟩
      · have i1 : ¬ (k : Int) < (n : Int) := by omega
        clear hm hlt
        go_wp2_with fail
        go_ret
        exact ⟨sa, sc, rfl, hO, hx⟩
end Go.Proofs.YtdmifbfgeeldnaaGreat

/- Layer 18: what the statements draw fits; the law ProtectHides. -/
namespace Go.Pkt
open Go.Oct Go.Aes Go.Sec
theorem kindN_in (s : Nat) : kindN s = 260 ∨ kindN s = 516 ∨ kindN s = 772 ∨ kindN s = 8192 ∨ kindN s = 0 := by
  unfold kindN
  match s with
  | 0 => simp
  | 1 => simp
  | 2 => simp
  | 3 => simp
  | s + 4 => simp
theorem wflds_in {L : List (Int × List UInt8)} {f : Fld} (h : f ∈ wflds L) : (0 ≤ f.1 ∧ f.1 ≤ 65535) ∧ f.1 ≠ 1028 ∧ f.2.length ≤ 60 := by
  obtain ⟨x, _, rfl⟩ := List.mem_map.1 h
  have h1 := kindN_in (x.1 % 4).toNat
  refine ⟨?_, ?_, ?_⟩
  · simp only [wfld]; omega
  · simp only [wfld]; omega
  · simp only [wfld, List.length_take]; omega
theorem totN_le {L : List Fld} {m : Nat} (h : ∀ f ∈ L, szN f.2.length ≤ m) : totN L ≤ L.length * m := by
  induction L with
  | nil => simp [totN]
  | cons f L ih =>
    rw [totN_cons, List.length_cons, Nat.succ_mul]
    have h1 := h f (List.mem_cons_self ..)
    have h2 := ih fun g hg => h g (List.mem_cons_of_mem _ hg)
    omega
theorem wflds_sz {L : List (Int × List UInt8)} {f : Fld} (h : f ∈ wflds L) : szN f.2.length ≤ 64 := by
  have := (wflds_in h).2.2
  unfold szN; omega
theorem wflds_len (L : List (Int × List UInt8)) : (wflds L).length ≤ 4 := by unfold wflds; rw [List.length_map, List.length_take]; omega
theorem wflds_tot (L : List (Int × List UInt8)) : totN (wflds L) ≤ 256 := by
  have h1 := totN_le (L := wflds L) (m := 64) fun f hf => wflds_sz hf
  have h2 := wflds_len L
  omega
theorem wflds_fits (t : UInt64) (A B : List (Int × List UInt8)) (g : Bool) (nn : Nat) (hn : 16 ≤ nn ∧ nn ≤ 32) : Fits ⟨askH t, wflds A, wflds B, g⟩ nn where
  h := askH_ok t
  f1 := fun f hf => ⟨(wflds_in hf).1, Nat.le_trans (wflds_sz hf) (by omega)⟩
  f2 := fun f hf => ⟨(wflds_in hf).1, Nat.le_trans (wflds_sz hf) (by omega)⟩
  a := fun f hf => (wflds_in hf).2.1
  n1 := by have := wflds_len A; show (wflds A).length < 24; omega
  n2 := by have := wflds_len B; show (wflds B).length ≤ 24; omega
  n0 := hn
  t := by
    have h1 := wflds_tot A
    have h2 := wflds_tot B
    show 48 + totN (wflds A) + (8 + pad4 nn + pad4 (16 + totN (wflds B))) ≤ 1280
    unfold pad4; omega
  t2 := by have := wflds_tot B; show totN (wflds B) ≤ 1232; omega
end Go.Pkt
namespace Go.Proofs.YtdmifbfgeeldnaaGreat
open Go.RowKit Go.Sec Go.Oct Go.Pkt Go.Aes Go.Sha BigFrame

set_option maxRecDepth 100000 in
theorem rask_any (t : UInt64) (w : World) :
    Calls Tryz.prog 8 #[.int .u64 (n64 t)] w fun e w' => e = .returned (.agg #[.int .i64 0, .int .i64 4, .int .i64 3, .int .i64 0, .int .i64 6, .int .i64 0, .int .u32 0, .int .u32 0, .int .u32 0, .int .u64 0, .int .u64 0, .int .u64 0, .int .u64 (n64 t)]) ∧ Ext w w' := by
  go_enter Tryz.func8, Tryz.ntmps8
  go_wp2
  refine bodyPost_ret (results_arr Tryz.results8 (RH13) _ _ (w.heap.size) (0) ([.int .i64 0, .int .i64 4, .int .i64 3, .int .i64 0, .int .i64 6, .int .i64 0, .int .u32 0, .int .u32 0, .int .u32 0, .int .u64 0, .int .u64 0, .int .u64 0, .int .u64 (n64 t)]) rfl ((Blk.new _ _ _).rd) (rfl)) rfl ?_
  exact ⟨rfl, (by repeat (first | (with_reducible first | exact Ext.refl _ | assumption | apply Ext.alloc | apply Ext.ext | apply Ext.drew | refine Ext.setCell ?_ ?_ _) | (focus (simp [go_sem]; done))))⟩

def protX (s : Nat) (t : UInt64) (A B : List (Int × List UInt8)) : List UInt8 := hdrB (askH t) ++ bytesF (wflds A) ++ fldB (1028, guardB (wbytes s 16) (sealB (wbytes s 32) ⟨askH t, wflds A, wflds B, false⟩ (wbytes s 16)))
end Go.Proofs.YtdmifbfgeeldnaaGreat

/- sectimeref01.SameFields. -/
namespace Go.Proofs.YtdmifbfgeeldnaaGreat
open Go.RowKit Go.Sec Go.Oct Go.Pkt BigFrame

set_option maxRecDepth 100000 in
set_option maxHeartbeats 4000000 in
theorem sameFields_any (a b : Option Addr) (n c m d : Nat) (L K : List Fld) (w : World) (h1 : Ib w a n L) (h2 : Ib w b m K) (hn : n ≤ 1000000) :
    Calls Tryz.prog 57 #[.slice a n c, .slice b m d] w fun e w' => e = .returned (.bool (decide (L = K))) ∧ Ext w w' := by
  have l1 := h1.len
  have l2 := h2.len
  obtain ⟨r, hr⟩ : ∃ r, decide (L = K) = r := ⟨_, rfl⟩
  rw [hr]
  have hyes := fun h : L = K => (show r = true by rw [← hr]; exact decide_eq_true h)
  have hno := fun h : L ≠ K => (show r = false by rw [← hr]; exact decide_eq_false h)
  clear hr
  by_cases hnm : n = m
  · subst hnm
    go_enter Tryz.func57, Tryz.ntmps57
    go_wp2
    go_loopw [5] (fun v5 wr => ∃ k : Nat, k ≤ n ∧ v5 = .int .i64 k ∧ Hid (L.take k = K.take k) ∧ Ext w wr) (fun v5 _ => n - (intOf v5).toNat)
    case atStart => exact ⟨0, Nat.zero_le _, rfl, Lib.hid rfl, (by repeat (first | (with_reducible first | exact Ext.refl _ | assumption | apply Ext.alloc | apply Ext.ext | apply Ext.drew | refine Ext.setCell ?_ ?_ _) | (focus (simp [go_sem]; done))))⟩
    case round =>
      obtain ⟨k, hk, rfl, hE, hx⟩ := hrel
      by_cases hlt : k < n
      · obtain ⟨fx, hxi⟩ : ∃ fx, L[k]? = some fx := ⟨_, List.getElem?_eq_getElem (by omega)⟩
        obtain ⟨fy, hyi⟩ : ∃ fy, K[k]? = some fy := ⟨_, List.getElem?_eq_getElem (by omega)⟩
        obtain ⟨b1, o1, g1, k1, rfl, hb1, hc1, hd1, hs1, hk1⟩ := (h1.ext hx).at k hlt _ hxi
        obtain ⟨b2, o2, g2, k2, rfl, hb2, hc2, hd2, hs2, hk2⟩ := (h2.ext hx).at k hlt _ hyi
        have hk0 : (0 : Int) ≤ (k : Int) := by omega
        have hk1 : (k : Int) < (n : Int) := by omega
        have hts : fx = fy → L.take (k + 1) = K.take (k + 1) := fun h => by
          obtain ⟨q1, e1⟩ := List.getElem?_eq_some_iff.1 hxi
          obtain ⟨q2, e2⟩ := List.getElem?_eq_some_iff.1 hyi
          rw [List.take_succ_eq_append_getElem q1, List.take_succ_eq_append_getElem q2, hE.out, e1, e2, h]
        have hdf : fx ≠ fy → L ≠ K := fun h e => by subst e; rw [hxi] at hyi; injection hyi with hyi; exact h hyi
        haveI := hb1
        haveI := hb2
        by_cases ht : fx.1 = fy.1
        · have it : (fx.1 != fy.1) = false := by rw [ht]; simp
          go_wp2_with fail
          refine wp_region_vague 25 [[], [], [0, 1], [0, 1, 2], [0, 1, 2, 3], [], [], [5, 6], [5, 6, 7], [5, 6, 7, 8], [0, 1, 2, 3, 4, 5, 6, 7, 8, 9], [0, 1, 2, 3, 4, 5, 6, 7, 8, 9, 10], [0, 1, 2, 3, 4, 5, 6, 7, 8, 9, 10, 11], [0, 1, 2, 3, 4, 5, 6, 7, 8, 9, 10, 11], [0, 1, 2, 3, 4, 5, 6, 7, 8, 9, 10, 11, 12, 13], [0, 1, 2, 3, 4, 5, 6, 7, 8, 9, 10, 11, 12, 13, 14], [0, 1, 2, 3, 4, 5, 6, 7, 8, 9, 10, 11, 12, 13, 14, 15], [0, 1, 2, 3, 4, 5, 6, 7, 8, 9, 10, 11], [0, 1, 2, 3, 4, 5, 6, 7, 8, 9, 10, 11], [0, 1, 2, 3, 4, 5, 6, 7, 8, 9, 10, 11, 17, 18], [0, 1, 2, 3, 4, 5, 6, 7, 8, 9, 10, 11, 17, 18, 19], [0, 1, 2, 3, 4, 5, 6, 7, 8, 9, 10, 11, 17, 18, 19, 20], [0, 1, 2, 3, 4, 5, 6, 7, 8, 9, 10, 11, 12, 13, 14, 15, 16, 17, 18, 19, 20, 21], [0, 1, 2, 3, 4, 5, 6, 7, 8, 9, 10, 11, 12, 13, 14, 15, 16, 17, 18, 19, 20, 21, 22], [0, 1, 2, 3, 4, 5, 6, 7, 8, 9, 10, 11, 12, 13, 14, 15, 16, 17, 18, 19, 20, 21, 22, 23]] (by kernel_rfl) (by kernel_rfl) (by kernel_rfl) (by kernel_rfl) ?_; simp only [List.take_succ_cons, List.take_zero, List.drop_succ_cons, List.drop_zero, List.take_nil, List.drop_nil]
          (repeat (apply VD_der; (case h => (intro us w' hx hf; obtain ⟨x, rfl⟩ := hx.out; refine ⟨rfl, ?_⟩; simp [go_sem, execOp, *]; (try simp (disch := omega) only [Go.IntWalk.i64_in, Go.IntWalk.rem_in, Go.IntWalk.wrap64_in]); rfl)); (try simp only [Act.put, List.setIfInBounds_toArray, List.set_cons_succ, List.set_cons_zero])))
          (refine VD_vag (fun _ => .bool (fx.2 == fy.2)) (fun _ _ => True) (fun _ _ _ _ _ => trivial) (fun us w' hx hf => ⟨rfl, ?_⟩) ?_; (unfold gives; simp [go_sem, execOp]; refine (same_any _ _ _ _ _ _ _ _ _ (hs1.ext hx) (hs2.ext hx)).mono ?_; rintro e w1 ⟨rfl, hx1⟩; first | exact ⟨rfl, hx1⟩ | simpa using hx1))
          (repeat (apply VD_der; (case h => (intro us w' hx hf; obtain ⟨x, rfl⟩ := hx.out; refine ⟨rfl, ?_⟩; simp [go_sem, execOp, *]; (try simp (disch := omega) only [Go.IntWalk.i64_in, Go.IntWalk.rem_in, Go.IntWalk.wrap64_in]); rfl)); (try simp only [Act.put, List.setIfInBounds_toArray, List.set_cons_succ, List.set_cons_zero])))
          (refine VD_nil ?_; intro us w' hx hf; obtain ⟨x, rfl⟩ := hx.out; (try simp only [Act.put, List.setIfInBounds_toArray, List.set_cons_succ, List.set_cons_zero, wpList_none]); (try simp only [List.mem_cons, List.not_mem_nil, or_false, forall_eq_or_imp, forall_eq, List.nil_append, List.cons_append, List.mem_append, false_or, true_and, and_true] at hf); (try simp only [Nat.reduceAdd, Nat.zero_add] at hf); (try simp only [Nat.reduceAdd, Nat.zero_add]))
          cases hb : (fx.2 == fy.2)
          · have er := Lib.hid (hno (hdf fun h => by rw [h] at hb; simp at hb))
            go_wp2
            go_ret
            exact ⟨by rw [er.out]; rfl, (by repeat (first | (with_reducible first | exact Ext.refl _ | assumption | apply Ext.alloc | apply Ext.ext | apply Ext.drew | refine Ext.setCell ?_ ?_ _) | (focus (simp [go_sem]; done))))⟩
          · have hE2 := Lib.hid (hts (Prod.ext ht (beq_iff_eq.1 hb)))
            go_wp2
            go_roundw
            case rel => exact ⟨k + 1, by omega, by go_num, hE2, (by repeat (first | (with_reducible first | exact Ext.refl _ | assumption | apply Ext.alloc | apply Ext.ext | apply Ext.drew | refine Ext.setCell ?_ ?_ _) | (focus (simp [go_sem]; done))))⟩
            case measure => simp [intOf]; omega
        · have it : (fx.1 != fy.1) = true := by rw [bne_iff_ne]; exact ht
          have er := Lib.hid (hno (hdf fun h => ht (by rw [h])))
          go_wp2_with fail
          refine wp_region_vague 25 [[], [], [0, 1], [0, 1, 2], [0, 1, 2, 3], [], [], [5, 6], [5, 6, 7], [5, 6, 7, 8], [0, 1, 2, 3, 4, 5, 6, 7, 8, 9], [0, 1, 2, 3, 4, 5, 6, 7, 8, 9, 10], [0, 1, 2, 3, 4, 5, 6, 7, 8, 9, 10, 11], [0, 1, 2, 3, 4, 5, 6, 7, 8, 9, 10, 11], [0, 1, 2, 3, 4, 5, 6, 7, 8, 9, 10, 11, 12, 13], [0, 1, 2, 3, 4, 5, 6, 7, 8, 9, 10, 11, 12, 13, 14], [0, 1, 2, 3, 4, 5, 6, 7, 8, 9, 10, 11, 12, 13, 14, 15], [0, 1, 2, 3, 4, 5, 6, 7, 8, 9, 10, 11], [0, 1, 2, 3, 4, 5, 6, 7, 8, 9, 10, 11], [0, 1, 2, 3, 4, 5, 6, 7, 8, 9, 10, 11, 17, 18], [0, 1, 2, 3, 4, 5, 6, 7, 8, 9, 10, 11, 17, 18, 19], [0, 1, 2, 3, 4, 5, 6, 7, 8, 9, 10, 11, 17, 18, 19, 20], [0, 1, 2, 3, 4, 5, 6, 7, 8, 9, 10, 11, 12, 13, 14, 15, 16, 17, 18, 19, 20, 21], [0, 1, 2, 3, 4, 5, 6, 7, 8, 9, 10, 11, 12, 13, 14, 15, 16, 17, 18, 19, 20, 21, 22], [0, 1, 2, 3, 4, 5, 6, 7, 8, 9, 10, 11, 12, 13, 14, 15, 16, 17, 18, 19, 20, 21, 22, 23]] (by kernel_rfl) (by kernel_rfl) (by kernel_rfl) (by kernel_rfl) ?_; simp only [List.take_succ_cons, List.take_zero, List.drop_succ_cons, List.drop_zero, List.take_nil, List.drop_nil]
          (repeat (apply VD_der; (case h => (intro us w' hx hf; obtain ⟨x, rfl⟩ := hx.out; refine ⟨rfl, ?_⟩; simp [go_sem, execOp, *]; (try simp (disch := omega) only [Go.IntWalk.i64_in, Go.IntWalk.rem_in, Go.IntWalk.wrap64_in]); rfl)); (try simp only [Act.put, List.setIfInBounds_toArray, List.set_cons_succ, List.set_cons_zero])))
          (repeat (refine VD_skip (fun us => rfl) ?_; (try simp only [Act.put, List.setIfInBounds_toArray, List.set_cons_succ, List.set_cons_zero])))
          (repeat (apply VD_der; (case h => (intro us w' hx hf; obtain ⟨x, rfl⟩ := hx.out; refine ⟨rfl, ?_⟩; simp [go_sem, execOp, *]; (try simp (disch := omega) only [Go.IntWalk.i64_in, Go.IntWalk.rem_in, Go.IntWalk.wrap64_in]); rfl)); (try simp only [Act.put, List.setIfInBounds_toArray, List.set_cons_succ, List.set_cons_zero])))
          (refine VD_nil ?_; intro us w' hx hf; obtain ⟨x, rfl⟩ := hx.out; (try simp only [Act.put, List.setIfInBounds_toArray, List.set_cons_succ, List.set_cons_zero, wpList_none]); (try simp only [List.mem_cons, List.not_mem_nil, or_false, forall_eq_or_imp, forall_eq, List.nil_append, List.cons_append, List.mem_append, false_or, true_and, and_true] at hf); (try simp only [Nat.reduceAdd, Nat.zero_add] at hf); (try simp only [Nat.reduceAdd, Nat.zero_add]))
          go_wp2
          go_ret
          exact ⟨by rw [er.out]; rfl, (by repeat (first | (with_reducible first | exact Ext.refl _ | assumption | apply Ext.alloc | apply Ext.ext | apply Ext.drew | refine Ext.setCell ?_ ?_ _) | (focus (simp [go_sem]; done))))⟩
      · obtain rfl : k = n := by omega
        have HE := Lib.hid (hyes (by
          have := hE.out
          rwa [List.take_of_length_le (by omega), List.take_of_length_le (by omega)] at this))
        clear hE
        go_wp2
        go_ret
        exact ⟨by rw [HE.out]; rfl, hx⟩
  · have HN := Lib.hid (hno fun e => hnm (by rw [← l1, ← l2, e]))
    clear l1 l2
    go_enter Tryz.func57, Tryz.ntmps57
    go_wp2
    go_ret
    exact ⟨by rw [HN.out]; rfl, Ext.refl _⟩
end Go.Proofs.YtdmifbfgeeldnaaGreat

/- sectimeref18.Same of equal packets. -/
namespace Go.Proofs.YtdmifbfgeeldnaaGreat
open Go.RowKit Go.Sec Go.Oct Go.Pkt BigFrame

set_option maxRecDepth 100000 in
set_option maxHeartbeats 1000000 in
theorem same18_any (h : Hdr) (a1 a2 b1 b2 : Option Addr) (n1 c1 n2 c2 d1 d2 : Nat) (A B : List Fld) (g : Bool) (w : World) (h1 : Ib w a1 n1 A) (h2 : Ib w b1 n1 A) (h3 : Ib w a2 n2 B) (h4 : Ib w b2 n2 B) (m1 : n1 ≤ 1000000) (m2 : n2 ≤ 1000000) :
    Calls Tryz.prog 17 #[.agg #[.int .i64 h.leap, .int .i64 h.ver, .int .i64 h.mode, .int .i64 h.strat, .int .i64 h.poll, .int .i64 h.prec, .int .u32 (n32 h.rd), .int .u32 (n32 h.rp), .int .u32 (n32 h.id), .int .u64 (n64 h.ref), .int .u64 (n64 h.org), .int .u64 (n64 h.rcv), .int .u64 (n64 h.tx), .slice a1 n1 c1, .slice a2 n2 c2, .bool g], .agg #[.int .i64 h.leap, .int .i64 h.ver, .int .i64 h.mode, .int .i64 h.strat, .int .i64 h.poll, .int .i64 h.prec, .int .u32 (n32 h.rd), .int .u32 (n32 h.rp), .int .u32 (n32 h.id), .int .u64 (n64 h.ref), .int .u64 (n64 h.org), .int .u64 (n64 h.rcv), .int .u64 (n64 h.tx), .slice b1 n1 d1, .slice b2 n2 d2, .bool g]] w fun e w' => e = .returned (.bool true) ∧ Ext w w' := by
  have s1 := fun W H1 H2 => sameFields_any a1 b1 n1 c1 n1 d1 A A W H1 H2 m1
  have s2 := fun W H1 H2 => sameFields_any a2 b2 n2 c2 n2 d2 B B W H1 H2 m2
  rw [decide_eq_true rfl] at s1 s2
  go_enter Tryz.func17, Tryz.ntmps17
  go_wp2_with fail; (with_reducible refine (s1 _ (h1.ext (by repeat (first | (with_reducible first | exact Ext.refl _ | assumption | apply Ext.alloc | apply Ext.ext | apply Ext.drew | refine Ext.setCell ?_ ?_ _) | (focus (simp [go_sem]; done))))) (h2.ext (by repeat (first | (with_reducible first | exact Ext.refl _ | assumption | apply Ext.alloc | apply Ext.ext | apply Ext.drew | refine Ext.setCell ?_ ?_ _) | (focus (simp [go_sem]; done)))))).mono ?_); rintro e w1 ⟨rfl, hxq⟩; obtain ⟨xq, rfl⟩ := hxq.out; clear hxq
  go_wp2_with fail; (with_reducible refine (s2 _ (h3.ext (by repeat (first | (with_reducible first | exact Ext.refl _ | assumption | apply Ext.alloc | apply Ext.ext | apply Ext.drew | refine Ext.setCell ?_ ?_ _) | (focus (simp [go_sem]; done))))) (h4.ext (by repeat (first | (with_reducible first | exact Ext.refl _ | assumption | apply Ext.alloc | apply Ext.ext | apply Ext.drew | refine Ext.setCell ?_ ?_ _) | (focus (simp [go_sem]; done)))))).mono ?_); rintro e w1 ⟨rfl, hxq⟩; obtain ⟨xq, rfl⟩ := hxq.out; clear hxq
  go_wp2_with fail
  go_ret
  exact ⟨rfl, (by repeat (first | (with_reducible first | exact Ext.refl _ | assumption | apply Ext.alloc | apply Ext.ext | apply Ext.drew | refine Ext.setCell ?_ ?_ _) | (focus (simp [go_sem]; done))))⟩
end Go.Proofs.YtdmifbfgeeldnaaGreat

/- sectimeworld.Padded, AllPadded. -/
namespace Go.Proofs.YtdmifbfgeeldnaaGreat
open Go.RowKit Go.Sec Go.Oct Go.Pkt BigFrame

def lenAt (w : World) (g : Nat) : Nat := match w.cell? ⟨g, 1, none⟩ with | some (.slice _ m _) => m | _ => 0
end Go.Proofs.YtdmifbfgeeldnaaGreat

/- sectimeworld.AllPadded. -/
namespace Go.Proofs.YtdmifbfgeeldnaaGreat
open Go.RowKit Go.Sec Go.Oct Go.Pkt BigFrame

end Go.Proofs.YtdmifbfgeeldnaaGreat

/- Layer 18: the law ProtectOpens. -/
namespace Go.Pkt
open Go.Oct Go.Aes Go.Sec
def protY (K N : List UInt8) (t : UInt64) (A B : List (Int × List UInt8)) : List UInt8 := hdrB (askH t) ++ bytesF (wflds A) ++ fldB (1028, guardB N (sealB K ⟨askH t, wflds A, wflds B, false⟩ N))
theorem protY_spec {K N : List UInt8} (t : UInt64) (A B : List (Int × List UInt8)) (hK : K.length = 32) (hN : 16 ≤ N.length ∧ N.length ≤ 32) :
    protE K ⟨askH t, wflds A, wflds B, false⟩ N = (protY K N t A B, 0) ∧ (protY K N t A B).length ≤ 1280 ∧ openP K (protY K N t A B) = (⟨askH t, (wflds A).map padF, (wflds B).map padF, true⟩, 0) ∧ ∃ G, readE (protY K N t A B) = (⟨askH t, (wflds A).map padF ++ [(1028, G)], [], false⟩, 0) := by
  have hf := wflds_fits t A B false _ hN
  have hp := protE_fits hK hf
  have h1 := fits_len hf
  have h2 := hf.t
  have h3 := hp.2
  have h4 := openP_fits hK hf
  have h5 := readE_fits hK hf
  have h6 := hp.1
  have e : protY K N t A B = hdrB (askH t) ++ bytesF (wflds A) ++ fldB (1028, guardB N (sealB K ⟨askH t, wflds A, wflds B, false⟩ N)) := rfl
  dsimp only at h4 h5 h6
  rw [← e] at h4 h5 h6
  refine ⟨h6, ?_, h4, _, h5⟩
  clear h4 h5 h6 hp
  rw [e, List.length_append]
  have h1 : (hdrB (askH t) ++ bytesF (wflds A)).length = 48 + totN (wflds A) := h1
  have h3 : (fldB (1028, guardB N (sealB K ⟨askH t, wflds A, wflds B, false⟩ N))).length = 8 + pad4 N.length + pad4 (16 + totN (wflds B)) := h3
  have h2 : 48 + totN (wflds A) + (8 + pad4 N.length + pad4 (16 + totN (wflds B))) ≤ 1280 := h2
  omega
end Go.Pkt
namespace Go.Proofs.YtdmifbfgeeldnaaGreat
open Go.RowKit Go.Sec Go.Oct Go.Pkt Go.Aes Go.Sha BigFrame

theorem u64_of {z : Int} (h : (Lit.int .u64 z).wf = true) : ∃ t : UInt64, z = n64 t := by
  have : 0 ≤ z ∧ z ≤ 18446744073709551615 := by simpa [Lit.wf, IntKind.min, IntKind.max, IntKind.signed, IntKind.bits] using h
  exact ⟨UInt64.ofNat z.toNat, by unfold n64; rw [UInt64.toNat_ofNat']; omega⟩
end Go.Proofs.YtdmifbfgeeldnaaGreat

/- Layer 18: the law ProtectRefuses. -/
namespace Go.Pkt
open Go.Oct Go.Aes
theorem readE_small (b : List UInt8) : (readE b).1.plain.length ≤ 24 ∧ (readE b).1.secret = [] ∧ (readE b).1.guarded = false := by
  by_cases h1 : (decH b).2 = 0
  · by_cases h2 : (decF (decH b).1.2).2 = 0
    · rw [readE_ok h1 h2]
      exact ⟨(decF_ok h2).2.1, rfl, rfl⟩
    · rw [readE_flds h1 h2]; exact ⟨by simp [zeroP], rfl, rfl⟩
  · rw [readE_head h1]; exact ⟨by simp [zeroP], rfl, rfl⟩
theorem openP_small (ky b : List UInt8) : (openP ky b).1.plain.length ≤ 24 ∧ (openP ky b).1.secret.length ≤ 24 := by
  have hz : (zeroP.plain.length ≤ 24) ∧ zeroP.secret.length ≤ 24 := by simp [zeroP]
  unfold openP
  split
  · exact hz
  · split
    · exact hz
    · split
      · exact hz
      · split
        · exact hz
        · split
          · exact hz
          · split
            · exact hz
            · split
              · exact hz
              · rename_i h
                refine ⟨?_, (decF_ok (by simpa using h)).2.1⟩
                have := (readE_small b).1
                simp only [List.length_take]; omega
end Go.Pkt
namespace Go.Proofs.YtdmifbfgeeldnaaGreat
open Go.RowKit Go.Sec Go.Oct Go.Pkt Go.Aes Go.Sha BigFrame

theorem rprotY_any (ak an a1 a2 : Option Addr) (ck n cn d1 d2 : Nat) (K N : List UInt8) (t : UInt64) (A B : List (Int × List UInt8)) (w : World) (hk : Sl w ak 32 K) (hck : 32 ≤ ck) (hn : Sl w an n N) (hcn : n ≤ cn) (hnn : 16 ≤ n ∧ n ≤ 32) (hI1 : Ib w a1 (wflds A).length (wflds A)) (hI2 : Ib w a2 (wflds B).length (wflds B)) :
    Calls Tryz.prog 11 #[.slice ak 32 ck, .agg #[.int .i64 (askH t).leap, .int .i64 (askH t).ver, .int .i64 (askH t).mode, .int .i64 (askH t).strat, .int .i64 (askH t).poll, .int .i64 (askH t).prec, .int .u32 (n32 (askH t).rd), .int .u32 (n32 (askH t).rp), .int .u32 (n32 (askH t).id), .int .u64 (n64 (askH t).ref), .int .u64 (n64 (askH t).org), .int .u64 (n64 (askH t).rcv), .int .u64 (n64 (askH t).tx), .slice a1 (wflds A).length d1, .slice a2 (wflds B).length d2, .bool false], .slice an n cn] w (Read2 (protY K N t A B).length (protY K N t A B) (.int .i64 0) w) := by
  have lA := wflds_len A
  have lB := wflds_len B
  have := rprotect_any ak an a1 a2 32 ck n cn (wflds A).length d1 (wflds B).length d2 ⟨askH t, wflds A, wflds B, false⟩ K N w hk hck hn hcn (by omega) hI1 (by omega) (fun f hf => by have := (wflds_in hf).2.2; omega) hI2 (by omega) (fun f hf => by have := (wflds_in hf).2.2; omega)
  rw [(protY_spec t A B hk.len (by rw [hn.len]; exact hnn)).1] at this
  exact this

set_option maxRecDepth 100000 in
set_option maxHeartbeats 1000000 in
theorem protectRefuses_walk (seed : Int) (a : Option Addr) (n1 c1 : Nat) (b : Option Addr) (n2 c2 : Nat) (atI byI : Int) (key : Bool) (A B : List (Int × List UInt8)) (w : World) (h1 : Ib w a n1 A) (_k1 : n1 ≤ c1) (_w1 : ∀ x ∈ A, (Lit.int .i64 x.1).wf = true) (h2 : Ib w b n2 B) (_k2 : n2 ≤ c2) (_w2 : ∀ x ∈ B, (Lit.int .i64 x.1).wf = true) :
    Calls Tryz.prog 3 #[.int .i64 seed, .slice a n1 c1, .slice b n2 c2, .int .i64 atI, .int .i64 byI, .bool key] w fun e w' => e = .returned (.bool true) ∧ Ext w w' := by
  clear _w1 _w2
  have hkn := fun W => known18_any W
  obtain ⟨s1, hs1, es1⟩ := nmod seed 1000 (by omega)
  have es1 : seed % 1000 = (s1 : Int) := es1
  have hw1 := fun W => within_any seed 1000 W (by omega) (by omega)
  rw [es1] at hw1
  obtain ⟨t, ht⟩ : ∃ t, t = UInt64.ofNat s1 := ⟨_, rfl⟩
  have hts : n64 t = ((s1 : Nat) : Int) := by rw [ht]; unfold n64; rw [UInt64.toNat_ofNat']; omega
  have hask : ∀ W, Calls Tryz.prog 8 #[.int .u64 ((s1 : Nat) : Int)] W fun e w' => e = .returned (.agg #[.int .i64 (askH t).leap, .int .i64 (askH t).ver, .int .i64 (askH t).mode, .int .i64 (askH t).strat, .int .i64 (askH t).poll, .int .i64 (askH t).prec, .int .u32 (n32 (askH t).rd), .int .u32 (n32 (askH t).rp), .int .u32 (n32 (askH t).id), .int .u64 (n64 (askH t).ref), .int .u64 (n64 (askH t).org), .int .u64 (n64 (askH t).rcv), .int .u64 (n64 (askH t).tx)]) ∧ Ext W w' := fun W => by rw [← hts]; exact rask_any t W
  clear ht hts es1
  have hf1 := fun W H => wfields_any a n1 c1 A W H
  have hf2 := fun W H => wfields_any b n2 c2 B W H
  have hky := fun W => key_any s1 rfl W (by omega)
  have hnn := fun W => wbytes_any (s1 + 1) 16 (show (s1 : Int) + 1 = ((s1 + 1 : Nat) : Int) by omega) (show (16 : Int) = ((16 : Nat) : Int) from rfl) W (by omega) (by omega)
  have hKl := wbytes_length s1 32
  have hNl := wbytes_length (s1 + 1) 16
  obtain ⟨-, hXl, hop, -⟩ := protY_spec (K := wbytes s1 32) (N := wbytes (s1 + 1) 16) t A B hKl (by omega)
  have hpr := fun ak an a1 a2 ck cn d1 d2 W H1 H2 H3 H4 H5 H6 => rprotY_any ak an a1 a2 ck 16 cn d1 d2 (wbytes s1 32) (wbytes (s1 + 1) 16) t A B W H1 H2 H3 H4 (by omega) H5 H6
  have hXg : 48 ≤ (protY (wbytes s1 32) (wbytes (s1 + 1) 16) t A B).length := by unfold protY; simp only [List.length_append, hdrB_length]; omega
  generalize protY (wbytes s1 32) (wbytes (s1 + 1) 16) t A B = X at *
  generalize wbytes s1 32 = K at *
  generalize wbytes (s1 + 1) 16 = N at *
  have lA := wflds_len A
  have lB := wflds_len B
  generalize (wflds A).map padF = Q1 at *
  generalize (wflds B).map padF = Q2 at *
  generalize wflds A = P1 at *
  generalize wflds B = P2 at *
  have hKl := Lib.hid hKl
  have hNl := Lib.hid hNl
  go_enter Tryz.func3, Tryz.ntmps3
  go_wp2_with fail
  (with_reducible refine (hw1 _).mono ?_); rintro e w1 ⟨rfl, hx1⟩
  go_wp2_with fail
  (with_reducible refine (hask _).mono ?_); rintro e w3 ⟨rfl, hx3⟩
  have hE3 := hx1.trans hx3
  clear hx1 hx3 hw1 hask
  go_wp2_with fail
  (with_reducible refine (hf1 _ (h1.ext hE3)).mono ?_); rintro e w4 ⟨b1, d1, rfl, hO1, hx4⟩
  have hE4 := hE3.trans hx4
  clear hE3 hf1 hx4
  go_wp2_with fail
  (with_reducible refine (hf2 _ (h2.ext hE4)).mono ?_); rintro e w5 ⟨b2, d2, rfl, hO2, hx5⟩
  have hE5 := hE4.trans hx5
  have hI1 := hO1.ib.1.ext hx5
  have hI2 := hO2.ib.1
  clear hE4 hf2 hx5 hO1 hO2
  go_wp2_with (first
    | (refine wpList_alloc_store (RP16) rfl rfl _ _ rfl rfl rfl rfl (by simp [Act.put]) ([.int .i64 (askH t).leap, .int .i64 (askH t).ver, .int .i64 (askH t).mode, .int .i64 (askH t).strat, .int .i64 (askH t).poll, .int .i64 (askH t).prec, .int .u32 (n32 (askH t).rd), .int .u32 (n32 (askH t).rp), .int .u32 (n32 (askH t).id), .int .u64 (n64 (askH t).ref), .int .u64 (n64 (askH t).org), .int .u64 (n64 (askH t).rcv), .int .u64 (n64 (askH t).tx), .slice b1 P1.length d1, .slice b2 P2.length d2, .bool false]) rfl (by simp) (rfl) ((by simp; repeat' (first | rfl | constructor))) ?_; intro x hz _)
    | fail)
  refine nameCl ?_
  intro W hW
  have hx6 : Ext w5 W := by rw [hW]; exact (by repeat (first | (with_reducible first | exact Ext.refl _ | assumption | apply Ext.alloc | apply Ext.ext | apply Ext.drew | refine Ext.setCell ?_ ?_ _) | (focus (simp [go_sem]; done))))
  have hB1 : Blk W w5.heap.size 32 [.int .i64 (askH t).leap, .int .i64 (askH t).ver, .int .i64 (askH t).mode, .int .i64 (askH t).strat, .int .i64 (askH t).poll, .int .i64 (askH t).prec, .int .u32 (n32 (askH t).rd), .int .u32 (n32 (askH t).rp), .int .u32 (n32 (askH t).id), .int .u64 (n64 (askH t).ref), .int .u64 (n64 (askH t).org), .int .u64 (n64 (askH t).rcv), .int .u64 (n64 (askH t).tx), .slice b1 P1.length d1, .slice b2 P2.length d2, .bool false] := by rw [hW]; exact hz.extB (by repeat (first | (with_reducible first | exact Ext.refl _ | assumption | apply Ext.alloc | apply Ext.ext | apply Ext.drew | refine Ext.setCell ?_ ?_ _) | (focus (simp [go_sem]; done))))
  have hE6 := hE5.trans hx6
  have hI1 := hI1.ext hx6
  have hI2 := hI2.ext hx6
  clear hW hx6 hz hE5
  (with_reducible refine (hky _).mono ?_); rintro e w6 ⟨ak, ck, rfl, hOk, hxk⟩
  have hE6 := hE6.trans hxk
  have hB1 := hB1.extB hxk
  have hI1 := hI1.ext hxk
  have hI2 := hI2.ext hxk
  have hk := hOk.sl
  have hck := hOk.le.1
  haveI := hB1.blt
  clear hxk hOk hky
  go_wp2_with fail
  refine wp_region_vague 10 [[], [], [], [2], [2, 3], [0, 1, 2, 3, 4], [0, 1, 2, 3, 4, 5], [0, 1, 2, 3, 4, 5, 6], [0, 1, 2, 3, 4, 5, 6], [0, 1, 2, 3, 4, 5, 6, 7], [0, 1, 2, 3, 4, 5, 6, 7, 8, 9]] (by kernel_rfl) (by kernel_rfl) (by kernel_rfl) (by kernel_rfl) ?_; simp only [List.take_succ_cons, List.take_zero, List.drop_succ_cons, List.drop_zero, List.take_nil, List.drop_nil]
  (repeat (apply VD_der; (case h => (intro us w' hx hf; obtain ⟨x, rfl⟩ := hx.out; refine ⟨rfl, ?_⟩; simp [go_sem, execOp, *]; (try simp (disch := omega) only [Go.IntWalk.i64_in, Go.IntWalk.rem_in, Go.IntWalk.wrap64_in]); rfl)); (try simp only [Act.put, List.setIfInBounds_toArray, List.set_cons_succ, List.set_cons_zero])))
  (refine VD_load_arr (RP16) _ rfl (fun _ => rfl) (w5.heap.size) (0) (fun _ => by simp [go_sem]) ([.int .i64 (askH t).leap, .int .i64 (askH t).ver, .int .i64 (askH t).mode, .int .i64 (askH t).strat, .int .i64 (askH t).poll, .int .i64 (askH t).prec, .int .u32 (n32 (askH t).rd), .int .u32 (n32 (askH t).rp), .int .u32 (n32 (askH t).id), .int .u64 (n64 (askH t).ref), .int .u64 (n64 (askH t).org), .int .u64 (n64 (askH t).rcv), .int .u64 (n64 (askH t).tx), .slice b1 P1.length d1, .slice b2 P2.length d2, .bool false]) (hB1.rd) (rfl) ?_)
  (repeat (apply VD_der; (case h => (intro us w' hx hf; obtain ⟨x, rfl⟩ := hx.out; refine ⟨rfl, ?_⟩; simp [go_sem, execOp, *]; (try simp (disch := omega) only [Go.IntWalk.i64_in, Go.IntWalk.rem_in, Go.IntWalk.wrap64_in]); rfl)); (try simp only [Act.put, List.setIfInBounds_toArray, List.set_cons_succ, List.set_cons_zero])))
  (refine VD_vag (fun p => .slice (p 0).1 (16) (p 0).2) (fun p w'' => Own w'' 0 (p 0).1 (16) (p 0).2 (N)) (fun p w w' h hx => h.ext hx) (fun us w' hx hf => ⟨rfl, ?_⟩) ?_; (unfold gives; simp [go_sem, execOp]; exact vag_fresh (Nat.zero_le _) (hnn _)))
  (refine VD_vag (fun p => .tuple #[.slice (p 0).1 (X.length) (p 0).2, .int .i64 0]) (fun p w'' => Sl w'' (p 0).1 (X.length) (X) ∧ (X.length) ≤ (p 0).2) (fun p w w' h hx => ⟨h.1.ext hx, h.2⟩) (fun us w' hx hf => ⟨rfl, ?_⟩) ?_; (unfold gives; simp [go_sem, execOp]; exact vag_read (hpr _ _ b1 b2 _ _ d1 d2 _ (hk.ext hx) hck (Own.sl (hf _ (List.mem_append_right _ (List.mem_singleton_self _)) rfl)) (Own.le (hf _ (List.mem_append_right _ (List.mem_singleton_self _)) rfl)).1 (hI1.ext hx) (hI2.ext hx))))
  (repeat (apply VD_der; (case h => (intro us w' hx hf; obtain ⟨x, rfl⟩ := hx.out; refine ⟨rfl, ?_⟩; simp [go_sem, execOp, *]; (try simp (disch := omega) only [Go.IntWalk.i64_in, Go.IntWalk.rem_in, Go.IntWalk.wrap64_in]); rfl)); (try simp only [Act.put, List.setIfInBounds_toArray, List.set_cons_succ, List.set_cons_zero])))
  (refine VD_nil ?_; intro us w' hx hf; obtain ⟨x, rfl⟩ := hx.out; (try simp only [Act.put, List.setIfInBounds_toArray, List.set_cons_succ, List.set_cons_zero, wpList_none]); (try simp only [List.mem_cons, List.not_mem_nil, or_false, forall_eq_or_imp, forall_eq, List.nil_append, List.cons_append, List.mem_append, false_or, true_and, and_true] at hf); (try simp only [Nat.reduceAdd, Nat.zero_add] at hf); (try simp only [Nat.reduceAdd, Nat.zero_add]))
  obtain ⟨-, hX, hXc⟩ := hf
  obtain ⟨p5, hp5⟩ : ∃ a, (us 5 0).1 = a := ⟨_, rfl⟩
  obtain ⟨q5, hq5⟩ : ∃ a, (us 5 0).2 = a := ⟨_, rfl⟩
  rw [hp5] at hX ⊢
  rw [hq5] at hXc ⊢
  clear hp5 hq5 hnn hpr hI1 hI2
  have hxx : Ext w6 (w6.ext x) := Ext.of_ext _ _
  have hE7 := hE6.trans hxx
  have hk := hk.ext hxx
  clear hE6 hxx hB1
  generalize w6.ext x = W7 at *
  have hope := fun W H1 H2 => popenp_any ak p5 32 ck X.length q5 K X W H1 hck H2 hXc (by omega)
  rw [hop] at hope
  clear hop
  go_wp2_with fail
  (with_reducible refine (hope _ hk hX).mono ?_)
  rintro e w9 ⟨a4, n4, c4, a5, n5, c5, rfl, hI4, hc4, hI5, hc5, hx9⟩
  have hE9 := hE7.trans hx9
  have hk := hk.ext hx9
  have hX := hX.ext hx9
  clear hE7 hx9 hope hI4 hI5
  dsimp only
  cases key
  · go_wp2_with (first
      | (refine wpList_alloc_store (RP16) rfl rfl _ _ rfl rfl rfl rfl (by simp [Act.put]) ([.int .i64 (askH t).leap, .int .i64 (askH t).ver, .int .i64 (askH t).mode, .int .i64 (askH t).strat, .int .i64 (askH t).poll, .int .i64 (askH t).prec, .int .u32 (n32 (askH t).rd), .int .u32 (n32 (askH t).rp), .int .u32 (n32 (askH t).id), .int .u64 (n64 (askH t).ref), .int .u64 (n64 (askH t).org), .int .u64 (n64 (askH t).rcv), .int .u64 (n64 (askH t).tx), .slice a4 n4 c4, .slice a5 n5 c5, .bool true]) rfl (by simp) (rfl) ((by simp; repeat' (first | rfl | constructor))) ?_; intro x hz _)
      | fail)
    have hxx : Ext w9 (w9.ext x) := Ext.of_ext _ _
    (with_reducible refine (changed_any p5 X.length q5 X atI byI _ (hX.ext hxx) (by omega) (by omega)).mono ?_)
    rintro e w10 ⟨p6, q6, rfl, hO6, hx10⟩
    have hE := hE9.trans (hxx.trans hx10)
    have hk := hk.ext (hxx.trans hx10)
    have hX := hO6.sl
    have hXc := hO6.le.1
    clear hE9 hxx hx10 hO6
    have hsm := openP_small (K) ((chg X atI byI))
    have ho1 := fun W H1 H2 => popenp_any ak p6 32 ck X.length q6 (K) ((chg X atI byI)) W H1 hck H2 hXc (by omega)
    have ho2 := fun W H1 H2 => ropenp_any ak p6 32 ck X.length q6 (K) ((chg X atI byI)) W H1 hck H2 hXc (by omega)
    generalize openP (K) ((chg X atI byI)) = R at *
    go_wp2_with fail
    (with_reducible refine (ho1 _ hk hX).mono ?_)
    rintro e w11 ⟨e1, m1, f1, e2, m2, f2, rfl, hJ1, g1, hJ2, g2, hx11⟩
    have hE11 := hE.trans hx11
    have hk := hk.ext hx11
    have hX := hX.ext hx11
    clear hE hx11 ho1
    go_wp2_with (first
      | (refine wpList_alloc_store (RP16) rfl rfl _ _ rfl rfl rfl rfl (by simp [Act.put]) ([.int .i64 R.1.h.leap, .int .i64 R.1.h.ver, .int .i64 R.1.h.mode, .int .i64 R.1.h.strat, .int .i64 R.1.h.poll, .int .i64 R.1.h.prec, .int .u32 (n32 R.1.h.rd), .int .u32 (n32 R.1.h.rp), .int .u32 (n32 R.1.h.id), .int .u64 (n64 R.1.h.ref), .int .u64 (n64 R.1.h.org), .int .u64 (n64 R.1.h.rcv), .int .u64 (n64 R.1.h.tx), .slice e1 m1 f1, .slice e2 m2 f2, .bool R.1.guarded]) rfl (by simp) (rfl) ((by simp; repeat' (first | rfl | constructor))) ?_; intro x3 hz3 _)
      | fail)
    have hxx3 : Ext w11 (w11.ext x3) := Ext.of_ext _ _
    (with_reducible refine (ho2 _ (hk.ext hxx3) (hX.ext hxx3)).mono ?_)
    rintro e w12 ⟨e3, m3, f3, e4, m4, f4, rfl, hJ3, g3, hJ4, g4, hx12⟩
    have hB2 := hz3.extB hx12
    have hx13 := hxx3.trans hx12
    have hE12 := hE11.trans hx13
    have hJ1 := hJ1.ext hx13
    have hJ2 := hJ2.ext hx13
    have l1 := hJ1.len
    have l2 := hJ2.len
    have l3 := hJ3.len
    have l4 := hJ4.len
    obtain rfl : m3 = m1 := by omega
    obtain rfl : m4 = m2 := by omega
    obtain ⟨gg2, hgg2⟩ : ∃ g, g = w11.heap.size := ⟨_, rfl⟩
    rw [← hgg2] at hB2 ⊢
    clear hgg2 hE11 hk hX hxx3 hx12 hx13 hz3 ho2
    go_wp2_with (first
      | (refine wpList_alloc_store (RP16) rfl rfl _ _ rfl rfl rfl rfl (by simp [Act.put]) ([.int .i64 R.1.h.leap, .int .i64 R.1.h.ver, .int .i64 R.1.h.mode, .int .i64 R.1.h.strat, .int .i64 R.1.h.poll, .int .i64 R.1.h.prec, .int .u32 (n32 R.1.h.rd), .int .u32 (n32 R.1.h.rp), .int .u32 (n32 R.1.h.id), .int .u64 (n64 R.1.h.ref), .int .u64 (n64 R.1.h.org), .int .u64 (n64 R.1.h.rcv), .int .u64 (n64 R.1.h.tx), .slice e3 m3 f3, .slice e4 m4 f4, .bool R.1.guarded]) rfl (by simp) (rfl) ((by simp; repeat' (first | rfl | constructor))) ?_; intro x4 hz4 _)
      | fail)
    have hxx4 : Ext w12 (w12.ext x4) := Ext.of_ext _ _
    (with_reducible refine (hkn _).mono ?_)
    rintro e w13 ⟨rfl, hx13⟩
    have hB2 := (hB2.extB hxx4).extB hx13
    have hB3 := hz4.extB hx13
    have hx14 := hxx4.trans hx13
    have hE13 := hE12.trans hx14
    have hJ1 := hJ1.ext hx14
    have hJ2 := hJ2.ext hx14
    have hJ3 := hJ3.ext hx14
    have hJ4 := hJ4.ext hx14
    clear hE12 hxx4 hx13 hx14 hz4
    haveI := hB2.blt
    haveI := hB3.blt
    go_wp2_with (first
      | (refine wpList_wanted (by simp [Region.wanted, yielded, Act.put]) ?_; (refine wpList_load_arr (RP16) rfl _ rfl (gg2) (0) rfl ([.int .i64 R.1.h.leap, .int .i64 R.1.h.ver, .int .i64 R.1.h.mode, .int .i64 R.1.h.strat, .int .i64 R.1.h.poll, .int .i64 R.1.h.prec, .int .u32 (n32 R.1.h.rd), .int .u32 (n32 R.1.h.rp), .int .u32 (n32 R.1.h.id), .int .u64 (n64 R.1.h.ref), .int .u64 (n64 R.1.h.org), .int .u64 (n64 R.1.h.rcv), .int .u64 (n64 R.1.h.tx), .slice e1 m3 f1, .slice e2 m4 f2, .bool R.1.guarded]) (hB2.rd) (rfl) ?_))
      | (refine wpList_wanted (by simp [Region.wanted, yielded, Act.put]) ?_; (refine wpList_load_arr (RP16) rfl _ rfl (w12.heap.size) (0) rfl ([.int .i64 R.1.h.leap, .int .i64 R.1.h.ver, .int .i64 R.1.h.mode, .int .i64 R.1.h.strat, .int .i64 R.1.h.poll, .int .i64 R.1.h.prec, .int .u32 (n32 R.1.h.rd), .int .u32 (n32 R.1.h.rp), .int .u32 (n32 R.1.h.id), .int .u64 (n64 R.1.h.ref), .int .u64 (n64 R.1.h.org), .int .u64 (n64 R.1.h.rcv), .int .u64 (n64 R.1.h.tx), .slice e3 m3 f3, .slice e4 m4 f4, .bool R.1.guarded]) (hB3.rd) (rfl) ?_))
      | fail)
    (with_reducible refine (same18_any R.1.h e1 e2 e3 e4 m3 f1 m4 f2 f3 f4 R.1.plain R.1.secret R.1.guarded _ hJ1 hJ3 hJ2 hJ4 (by omega) (by omega)).mono ?_)
    rintro e w14 ⟨rfl, hx14⟩
    go_wp2_with fail
    go_ret
    exact ⟨rfl, hE13.trans hx14⟩
  · go_wp2_with (first
      | (refine wpList_alloc_store (RP16) rfl rfl _ _ rfl rfl rfl rfl (by simp [Act.put]) ([.int .i64 (askH t).leap, .int .i64 (askH t).ver, .int .i64 (askH t).mode, .int .i64 (askH t).strat, .int .i64 (askH t).poll, .int .i64 (askH t).prec, .int .u32 (n32 (askH t).rd), .int .u32 (n32 (askH t).rp), .int .u32 (n32 (askH t).id), .int .u64 (n64 (askH t).ref), .int .u64 (n64 (askH t).org), .int .u64 (n64 (askH t).rcv), .int .u64 (n64 (askH t).tx), .slice a4 n4 c4, .slice a5 n5 c5, .bool true]) rfl (by simp) (rfl) ((by simp; repeat' (first | rfl | constructor))) ?_; intro x hz _)
      | fail)
    have hxx : Ext w9 (w9.ext x) := Ext.of_ext _ _
    (with_reducible refine (changed_any ak 32 ck K atI byI _ (hk.ext hxx) (by omega) (by omega)).mono ?_)
    rintro e w10 ⟨p6, q6, rfl, hO6, hx10⟩
    have hE := hE9.trans (hxx.trans hx10)
    have hX := hX.ext (hxx.trans hx10)
    have hk := hO6.sl
    have hck := hO6.le.1
    clear hE9 hxx hx10 hO6
    have hsm := openP_small ((chg K atI byI)) (X)
    have ho1 := fun W H1 H2 => popenp_any p6 p5 32 q6 X.length q5 ((chg K atI byI)) (X) W H1 hck H2 hXc (by omega)
    have ho2 := fun W H1 H2 => ropenp_any p6 p5 32 q6 X.length q5 ((chg K atI byI)) (X) W H1 hck H2 hXc (by omega)
    generalize openP ((chg K atI byI)) (X) = R at *
    go_wp2_with fail
    (with_reducible refine (ho1 _ hk hX).mono ?_)
    rintro e w11 ⟨e1, m1, f1, e2, m2, f2, rfl, hJ1, g1, hJ2, g2, hx11⟩
    have hE11 := hE.trans hx11
    have hk := hk.ext hx11
    have hX := hX.ext hx11
    clear hE hx11 ho1
    go_wp2_with (first
      | (refine wpList_alloc_store (RP16) rfl rfl _ _ rfl rfl rfl rfl (by simp [Act.put]) ([.int .i64 R.1.h.leap, .int .i64 R.1.h.ver, .int .i64 R.1.h.mode, .int .i64 R.1.h.strat, .int .i64 R.1.h.poll, .int .i64 R.1.h.prec, .int .u32 (n32 R.1.h.rd), .int .u32 (n32 R.1.h.rp), .int .u32 (n32 R.1.h.id), .int .u64 (n64 R.1.h.ref), .int .u64 (n64 R.1.h.org), .int .u64 (n64 R.1.h.rcv), .int .u64 (n64 R.1.h.tx), .slice e1 m1 f1, .slice e2 m2 f2, .bool R.1.guarded]) rfl (by simp) (rfl) ((by simp; repeat' (first | rfl | constructor))) ?_; intro x3 hz3 _)
      | fail)
    have hxx3 : Ext w11 (w11.ext x3) := Ext.of_ext _ _
    (with_reducible refine (ho2 _ (hk.ext hxx3) (hX.ext hxx3)).mono ?_)
    rintro e w12 ⟨e3, m3, f3, e4, m4, f4, rfl, hJ3, g3, hJ4, g4, hx12⟩
    have hB2 := hz3.extB hx12
    have hx13 := hxx3.trans hx12
    have hE12 := hE11.trans hx13
    have hJ1 := hJ1.ext hx13
    have hJ2 := hJ2.ext hx13
    have l1 := hJ1.len
    have l2 := hJ2.len
    have l3 := hJ3.len
    have l4 := hJ4.len
    obtain rfl : m3 = m1 := by omega
    obtain rfl : m4 = m2 := by omega
    obtain ⟨gg2, hgg2⟩ : ∃ g, g = w11.heap.size := ⟨_, rfl⟩
    rw [← hgg2] at hB2 ⊢
    clear hgg2 hE11 hk hX hxx3 hx12 hx13 hz3 ho2
    go_wp2_with (first
      | (refine wpList_alloc_store (RP16) rfl rfl _ _ rfl rfl rfl rfl (by simp [Act.put]) ([.int .i64 R.1.h.leap, .int .i64 R.1.h.ver, .int .i64 R.1.h.mode, .int .i64 R.1.h.strat, .int .i64 R.1.h.poll, .int .i64 R.1.h.prec, .int .u32 (n32 R.1.h.rd), .int .u32 (n32 R.1.h.rp), .int .u32 (n32 R.1.h.id), .int .u64 (n64 R.1.h.ref), .int .u64 (n64 R.1.h.org), .int .u64 (n64 R.1.h.rcv), .int .u64 (n64 R.1.h.tx), .slice e3 m3 f3, .slice e4 m4 f4, .bool R.1.guarded]) rfl (by simp) (rfl) ((by simp; repeat' (first | rfl | constructor))) ?_; intro x4 hz4 _)
      | fail)
    have hxx4 : Ext w12 (w12.ext x4) := Ext.of_ext _ _
    (with_reducible refine (hkn _).mono ?_)
    rintro e w13 ⟨rfl, hx13⟩
    have hB2 := (hB2.extB hxx4).extB hx13
    have hB3 := hz4.extB hx13
    have hx14 := hxx4.trans hx13
    have hE13 := hE12.trans hx14
    have hJ1 := hJ1.ext hx14
    have hJ2 := hJ2.ext hx14
    have hJ3 := hJ3.ext hx14
    have hJ4 := hJ4.ext hx14
    clear hE12 hxx4 hx13 hx14 hz4
    haveI := hB2.blt
    haveI := hB3.blt
    go_wp2_with (first
      | (refine wpList_wanted (by simp [Region.wanted, yielded, Act.put]) ?_; (refine wpList_load_arr (RP16) rfl _ rfl (gg2) (0) rfl ([.int .i64 R.1.h.leap, .int .i64 R.1.h.ver, .int .i64 R.1.h.mode, .int .i64 R.1.h.strat, .int .i64 R.1.h.poll, .int .i64 R.1.h.prec, .int .u32 (n32 R.1.h.rd), .int .u32 (n32 R.1.h.rp), .int .u32 (n32 R.1.h.id), .int .u64 (n64 R.1.h.ref), .int .u64 (n64 R.1.h.org), .int .u64 (n64 R.1.h.rcv), .int .u64 (n64 R.1.h.tx), .slice e1 m3 f1, .slice e2 m4 f2, .bool R.1.guarded]) (hB2.rd) (rfl) ?_))
      | (refine wpList_wanted (by simp [Region.wanted, yielded, Act.put]) ?_; (refine wpList_load_arr (RP16) rfl _ rfl (w12.heap.size) (0) rfl ([.int .i64 R.1.h.leap, .int .i64 R.1.h.ver, .int .i64 R.1.h.mode, .int .i64 R.1.h.strat, .int .i64 R.1.h.poll, .int .i64 R.1.h.prec, .int .u32 (n32 R.1.h.rd), .int .u32 (n32 R.1.h.rp), .int .u32 (n32 R.1.h.id), .int .u64 (n64 R.1.h.ref), .int .u64 (n64 R.1.h.org), .int .u64 (n64 R.1.h.rcv), .int .u64 (n64 R.1.h.tx), .slice e3 m3 f3, .slice e4 m4 f4, .bool R.1.guarded]) (hB3.rd) (rfl) ?_))
      | fail)
    (with_reducible refine (same18_any R.1.h e1 e2 e3 e4 m3 f1 m4 f2 f3 f4 R.1.plain R.1.secret R.1.guarded _ hJ1 hJ3 hJ2 hJ4 (by omega) (by omega)).mono ?_)
    rintro e w14 ⟨rfl, hx14⟩
    go_wp2_with fail
    go_ret
    exact ⟨rfl, hE13.trans hx14⟩
end Go.Proofs.YtdmifbfgeeldnaaGreat
