/- CipherUndoes and CipherGoesOn: the laws' walks. -/
import Derived.Test.YthooaeeajeajnaaStreamQ
import Derived.Test.YthooaeeajeajnaaCiphD
namespace Go.Proofs.Ythooaeeajeajnaa
open Go.RowKit Go.Sec Go.Oct Go.Aes Go.Sha BigFrame

def IsRow (k : IntKind) (w : World) (a : Option Addr) (len cap : Nat) (zs : List Int) : Prop :=
  (a = none ∧ len = 0 ∧ cap = 0 ∧ zs = []) ∨
  ∃ x, a = some x ∧ len ≤ cap ∧ cap ≤ maxLen ∧ zs.length = cap ∧ (∀ i, i < zs.length → w.cell? (x.add i) = some (.int k (zs.getD i 0))) ∧ ∀ n ∈ zs, (Lit.int k n).wf = true
theorem addr_none (x : Addr) (w : World) (v : Value) (h : w.cell? x = some v) : x = ⟨x.block, x.off, none⟩ := by
  cases x with
  | mk b o s =>
    unfold World.cell? at h
    split at h
    · cases s with
      | none => rfl
      | some _ => simp at h
    · cases h
/-- The bytes of a row that came in. -/
def rowL (zs : List Int) (len : Nat) : List UInt8 := (zs.take len).map b8
theorem b8_wf {a : Int} (h : (Lit.int .u8 a).wf = true) : n8 (b8 a) = a := by
  simp [Lit.wf, IntKind.min, IntKind.max, IntKind.signed, IntKind.bits] at h
  rw [n8_b8]; omega
theorem sl_of_row {w : World} {a : Option Addr} {len cap : Nat} {zs : List Int} (h : IsRow .u8 w a len cap zs) : Sl w a len (rowL zs len) ∧ len ≤ cap := by
  rcases h with ⟨_, h, _, _⟩ | ⟨x, rfl, h1, _, h3, h4, h5⟩
  · subst h
    exact ⟨⟨by simp [rowL], .inl (by simp [rowL])⟩, Nat.zero_le _⟩
  · refine ⟨⟨by simp [rowL]; omega, ?_⟩, h1⟩
    by_cases h0 : len = 0
    · left; subst h0; simp [rowL]
    · have c0 := h4 0 (by omega)
      have hx : x = ⟨x.block, x.off, none⟩ := addr_none x w _ (by simpa [Addr.add] using c0)
      refine .inr ⟨x.block, x.off, by rw [← hx], World.block_lt_of_cell? w x (by simpa [Addr.add] using c0), fun k v hk => ?_⟩
      have hkl : k < len := by
        have := (List.getElem?_eq_some_iff.1 hk).1
        simp [rowL] at this; omega
      have ck := h4 k (by omega)
      have ha : x.add k = ⟨x.block, x.off + k, none⟩ := by
        rw [hx]
        by_cases h0 : k = 0 <;> simp [Addr.add, h0]
      rw [ha] at ck
      rw [ck]
      have hz : zs.getD k 0 = zs[k]'(by omega) := by simp [List.getD, show k < zs.length by omega]
      have hw := h5 (zs[k]'(by omega)) (List.getElem_mem _)
      rw [hz]
      have e : ((rowL zs len).map u8v)[k]? = some (.int .u8 (zs[k]'(by omega))) := by
        simp [rowL, hkl, show k < zs.length by omega, b8_wf hw]
      rw [e] at hk
      injection hk with hk
      rw [← hk]

set_option maxRecDepth 100000 in
set_option maxHeartbeats 4000000 in
theorem cipherUndoes_walk (seed : Int) (a1 : Option Addr) (len1 cap1 : Nat) (z1 : List Int) (w : World) (w1 : IsRow .u8 w a1 len1 cap1 z1) :
    Calls Try.prog 6 #[.int .i64 seed, .slice a1 len1 cap1] w fun e w' => e = .returned (.bool true) ∧ Ext w w' := by
  obtain ⟨hl, hcap⟩ := sl_of_row w1
  generalize rowL z1 len1 = l at *
  clear w1
  by_cases h100 : 100 < len1
  · have hI : (100 : Int) < (len1 : Int) := by omega
    go_enter Try.func6, Try.ntmps6
    go_wp2_with (go_at_call 20; refine (known4_any _).mono ?_; rintro e w1 ⟨rfl, hxq⟩; obtain ⟨xq, rfl⟩ := hxq.out; clear hxq)
    go_returns
    exact ⟨rfl, (by repeat (first | (with_reducible first | exact Ext.refl _ | assumption | apply Ext.alloc | apply Ext.ext | apply Ext.drew | refine Ext.setCell ?_ ?_ _) | (focus (simp [go_sem]; done))))⟩
  · have hI : ¬ (100 : Int) < (len1 : Int) := by omega
    obtain ⟨s, hs⟩ : ∃ s : Nat, seed % 1000 = (s : Int) := ⟨(seed % 1000).toNat, by omega⟩
    have hs1 : s < 1000 := by omega
    have HS := Lib.hid hs
    clear hs
    go_enter Try.func6, Try.ntmps6
    go_wp2_with fail; (with_reducible refine (within_any seed 1000 _ (by omega) (by omega)).mono ?_); rintro e w1 ⟨rfl, hxq⟩; obtain ⟨xq, rfl⟩ := hxq.out; clear hxq
    rw [HS.out]
    go_wp2_with fail; (with_reducible refine (wbytes_any s 32 (by omega) (by omega) _ (by omega) (by omega)).mono ?_); rintro e w2 ⟨a2, c2, rfl, hO2, hx2⟩
    have hle := hO2.le
    have hw2 : Ext w w2 := (Ext.of_ext _ _).trans hx2
    have hk := hO2.sl.take 16 (by omega)
    have hb := hO2.sl.drop c2 16 hle.1
    generalize (wbytes s 32).take 16 = ky at *
    generalize (wbytes s 32).drop 16 = ctr at *
    have hc16 : 16 ≤ c2 := by omega
    have hcI : (16 : Int) ≤ (c2 : Int) := by omega
    have hl2 := hl.ext hw2
    have hxl : (stream ky ctr l).length = len1 := by rw [stream, streamK_length]; exact hl.len
    have hun := Lib.hid (show stream ky ctr (stream ky ctr l) = l from streamK_undo _ _ _)
    go_wp2_with fail
    refine wp_region_vague 11 [[], [0], [], [2], [], [0, 1, 2, 3, 4], [0, 1, 2, 3, 4, 5], [0, 1, 2, 3, 4, 5, 6], [0, 1, 2, 3, 4, 5, 6], [0, 1, 2, 3, 4, 5, 6, 7], [0, 1, 2, 3, 4, 5, 6, 7, 8, 9]] (by kernel_rfl) (by kernel_rfl) (by kernel_rfl) (by kernel_rfl) ?_; simp only [List.take_succ_cons, List.take_zero, List.drop_succ_cons, List.drop_zero, List.take_nil, List.drop_nil]
    (repeat (apply VD_der; (case h => (intro us w' hx hf; obtain ⟨x, rfl⟩ := hx.out; refine ⟨rfl, ?_⟩; simp [go_sem, execOp, *]; (try simp (disch := omega) only [Go.IntWalk.i64_in, Go.IntWalk.rem_in, Go.IntWalk.wrap64_in]); rfl)); (try simp only [Act.put, List.setIfInBounds_toArray, List.set_cons_succ, List.set_cons_zero])))
    (refine VD_vag (fun p => .tuple #[.slice (p 0).1 (len1) (p 0).2, .int .i64 0]) (fun p w'' => Sl w'' (p 0).1 (len1) (stream ky ctr l) ∧ (len1) ≤ (p 0).2) (fun p w w' h hx => ⟨h.1.ext hx, h.2⟩) (fun us w' hx hf => ⟨rfl, ?_⟩) ?_; (unfold gives; simp [go_sem, execOp]; exact vag_read (stream_any _ _ _ _ _ _ _ _ _ _ _ (hk.ext hx) hc16 (hb.ext hx) (by omega) (hl2.ext hx) (by omega))))
    (repeat (apply VD_der; (case h => (intro us w' hx hf; obtain ⟨x, rfl⟩ := hx.out; refine ⟨rfl, ?_⟩; simp [go_sem, execOp, *]; (try simp (disch := omega) only [Go.IntWalk.i64_in, Go.IntWalk.rem_in, Go.IntWalk.wrap64_in]); rfl)); (try simp only [Act.put, List.setIfInBounds_toArray, List.set_cons_succ, List.set_cons_zero])))
    (refine VD_nil ?_; intro us w' hx hf; obtain ⟨x, rfl⟩ := hx.out; (try simp only [Act.put, List.setIfInBounds_toArray, List.set_cons_succ, List.set_cons_zero, wpList_none]); (try simp only [List.mem_cons, List.not_mem_nil, or_false, forall_eq_or_imp, forall_eq, List.nil_append, List.cons_append, List.mem_append, false_or, true_and, and_true] at hf); (try simp only [Nat.reduceAdd, Nat.zero_add] at hf); (try simp only [Nat.reduceAdd, Nat.zero_add]))
    obtain ⟨hX, hXc⟩ := hf
    generalize (us 5 0).1 = p1 at *
    generalize (us 5 0).2 = q1 at *
    have hw3 := hw2.ext x
    have hk3 := hk.ext hx
    have hb3 := hb.ext hx
    have hl3 := hl2.ext hx
    generalize w2.ext x = w3 at *
    clear hx
    go_wp2_with fail
    refine wp_region_vague 11 [[], [0], [], [2], [], [0, 1, 2, 3, 4], [0, 1, 2, 3, 4, 5], [0, 1, 2, 3, 4, 5, 6], [0, 1, 2, 3, 4, 5, 6], [0, 1, 2, 3, 4, 5, 6, 7], [0, 1, 2, 3, 4, 5, 6, 7, 8, 9]] (by kernel_rfl) (by kernel_rfl) (by kernel_rfl) (by kernel_rfl) ?_; simp only [List.take_succ_cons, List.take_zero, List.drop_succ_cons, List.drop_zero, List.take_nil, List.drop_nil]
    (repeat (apply VD_der; (case h => (intro us w' hx hf; obtain ⟨x, rfl⟩ := hx.out; refine ⟨rfl, ?_⟩; simp [go_sem, execOp, *]; (try simp (disch := omega) only [Go.IntWalk.i64_in, Go.IntWalk.rem_in, Go.IntWalk.wrap64_in]); rfl)); (try simp only [Act.put, List.setIfInBounds_toArray, List.set_cons_succ, List.set_cons_zero])))
    (refine VD_vag (fun p => .tuple #[.slice (p 0).1 (len1) (p 0).2, .int .i64 0]) (fun p w'' => Sl w'' (p 0).1 (len1) (stream ky ctr (stream ky ctr l)) ∧ (len1) ≤ (p 0).2) (fun p w w' h hx => ⟨h.1.ext hx, h.2⟩) (fun us w' hx hf => ⟨rfl, ?_⟩) ?_; (unfold gives; simp [go_sem, execOp]; exact vag_read (stream_any _ _ _ _ _ _ _ _ _ _ _ (hk3.ext hx) hc16 (hb3.ext hx) (by omega) (hX.ext hx) (by omega))))
    (repeat (apply VD_der; (case h => (intro us w' hx hf; obtain ⟨x, rfl⟩ := hx.out; refine ⟨rfl, ?_⟩; simp [go_sem, execOp, *]; (try simp (disch := omega) only [Go.IntWalk.i64_in, Go.IntWalk.rem_in, Go.IntWalk.wrap64_in]); rfl)); (try simp only [Act.put, List.setIfInBounds_toArray, List.set_cons_succ, List.set_cons_zero])))
    (refine VD_nil ?_; intro us w' hx hf; obtain ⟨x, rfl⟩ := hx.out; (try simp only [Act.put, List.setIfInBounds_toArray, List.set_cons_succ, List.set_cons_zero, wpList_none]); (try simp only [List.mem_cons, List.not_mem_nil, or_false, forall_eq_or_imp, forall_eq, List.nil_append, List.cons_append, List.mem_append, false_or, true_and, and_true] at hf); (try simp only [Nat.reduceAdd, Nat.zero_add] at hf); (try simp only [Nat.reduceAdd, Nat.zero_add]))
    obtain ⟨hY, _⟩ := hf
    rw [hun.out] at hY
    generalize (us 5 0).1 = p2 at *
    generalize (us 5 0).2 = q2 at *
    go_wp2_with fail; (with_reducible refine (known4_any _).mono ?_); rintro e w1 ⟨rfl, hxq⟩; obtain ⟨xq, rfl⟩ := hxq.out; clear hxq
    go_wp2_with fail; (with_reducible refine (same_any p2 a1 len1 q2 len1 cap1 _ _ _ (hY.ext (Ext.of_ext _ _)) ((hl3.ext hx).ext (Ext.of_ext _ _))).mono ?_); rintro e w1 ⟨rfl, hxq⟩; obtain ⟨xq, rfl⟩ := hxq.out; clear hxq
    rw [beq_self_eq_true]
    go_wp2
    go_returns
    exact ⟨rfl, (by repeat (first | (with_reducible first | exact Ext.refl _ | assumption | apply Ext.alloc | apply Ext.ext | apply Ext.drew | refine Ext.setCell ?_ ?_ _) | (focus (simp [go_sem]; done))))⟩
end Go.Proofs.Ythooaeeajeajnaa
