/- Lemmas of this claim, several texts joined. -/
import Derived.Test.YtbfgeokngekdmaaGreatZ13
import Derived.Test.YtbfgeokngekdmaaGreatZ16
set_option linter.unusedVariables false
set_option linter.unusedSimpArgs false
/- The walks of the program's SHA-256: rotations, the constants, a block. -/
namespace Go.Sec
open Go.RowKit
/-- copy of cells into a block that is known. -/
theorem wpList_copy_vals {P : Program} {w : World} {ops : Array Oper} {rest : List Oper} {o : Oper} {a : Act} {Q : Exit → Act → World → Prop} (hgd : o.guard = none) (d s : Operand) (dT sT : TypeId)
    (ho : o.op = .call { callee := .builtin .copy, args := #[d, s], argTypes := #[dT, sT] }) (elem : TypeId) (hu : P.underlying dT = some (.slice elem)) (hsz : (P.info? elem).map (·.size) = some 1)
    (g off dLen dCap sg so n c : Nat) (hd : a.eval d = .slice (some ⟨g, off, none⟩) dLen dCap) (hs : a.eval s = .slice (some ⟨sg, so, none⟩) n c)
    (T : TypeId) (vs : List Value) (hB : Blk w g T vs) (news : List Value) (hS : Rd w (some ⟨sg, so, none⟩) news) (hm : news.length = min n dLen) (hfit : off + news.length ≤ vs.length) (h1 : ∀ v ∈ news, v.oneCell' = true)
    (h : ∀ w', Blk w' g T (vs.take off ++ (news ++ vs.drop (off + news.length))) → Mut g w w' → wpList P ops Q rest (a.put o.dst (.int .i64 (news.length : Int))) w') :
    wpList P ops Q (o :: rest) a w := by
  refine wpList_copy_own hgd d s dT sT ho elem hu hsz g off dLen dCap ⟨sg, so, none⟩ n c hd hs vs.toArray T hB news hm (fun j v hv => ?_) (by simpa using hfit) h1 ?_
  · rw [addr_add]
    rcases hS with hS | ⟨b, o', he, _, hc⟩
    · subst hS; simp at hv
    · injection he with he
      injection he with e1 e2
      subst e1 e2
      exact hc j v hv
  · exact h _ (setRow_heap w g _ _ T _ hB) (setRow_mut _ _ _)
/-- The first k words new, the others as they were. -/
def upW (f : Nat → UInt32) (l : List UInt32) (k : Nat) : List UInt32 := (List.range k).map f ++ l.drop k
theorem upW_zero (f : Nat → UInt32) (l : List UInt32) : upW f l 0 = l := by simp [upW]
theorem upW_all (f : Nat → UInt32) (l : List UInt32) (k : Nat) (h : l.length = k) : upW f l k = (List.range k).map f := by simp [upW, h]
theorem upW_get (f : Nat → UInt32) (l : List UInt32) (k : Nat) (hk : k < l.length) : (upW f l k)[k]? = some (l.getD k 0) := by
  unfold upW
  rw [List.getElem?_append_right (by simp)]
  simp [hk]
theorem upW_set (f : Nat → UInt32) (l : List UInt32) (k : Nat) (h : k < l.length) : (upW f l k).set k (f k) = upW f l (k + 1) := by
  unfold upW
  rw [List.set_append_right _ _ (by simp)]
  simp only [List.length_map, List.length_range, Nat.sub_self]
  rw [List.drop_eq_getElem_cons h, List.set_cons_zero, List.range_succ, List.map_append, List.append_assoc]
  rfl
end Go.Sec
namespace Go.Proofs.YtbfgeokngekdmaaGreat
open Go.RowKit Go.Sec Go.Oct Go.Sha BigFrame

theorem and31 : ∀ n : Fin 32, 1 ≤ n.val → bits .and .u64 (18446744073709551616 - (n.val : Int)) 31 = ((32 - n.val : Nat) : Int) := by decide +kernel
theorem or_comm32 (x y : UInt32) : x ||| y = y ||| x := by
  apply UInt32.toNat_inj.1
  rw [UInt32.toNat_or, UInt32.toNat_or, Nat.or_comm]
set_option maxRecDepth 100000 in
set_option maxHeartbeats 2000000 in
theorem rotl_nat (x : UInt32) (n : Nat) (h1 : 1 ≤ n) (h2 : n ≤ 31) (w : World) :
    Calls Tryz.prog 104 #[.int .u32 (n32 x), .int .i64 (-(n : Int))] w fun e w' => e = .returned (.int .u32 (n32 (turn x n))) ∧ Ext w w' := by
  have s1 := shr32_pow x n (by omega)
  have s2 := shl32_pow x (32 - n) (by omega)
  have HT := Lib.hid (show turn x n = (x <<< UInt32.ofNat (32 - n)) ||| (x >>> UInt32.ofNat n) from or_comm32 _ _)
  have hw1 : IntKind.u64.wrap (-(n : Int)) = 18446744073709551616 - (n : Int) := by rw [IntKind.wrap_u64]; omega
  have ha := and31 ⟨n, by omega⟩ h1
  simp only at ha
  have e1 : (32 : Int) - ((32 - n : Nat) : Int) = (n : Int) := by omega
  have hw2 : IntKind.u64.wrap (n : Int) = (n : Int) := by rw [IntKind.wrap_u64]; omega
  generalize hm : 32 - n = m at *
  go_enter Tryz.func104, Tryz.ntmps104
  go_wp2
  go_returns
  exact ⟨by rw [HT.out]; rfl, Ext.refl _⟩
set_option maxRecDepth 100000 in
set_option maxHeartbeats 2000000 in
theorem rotate_nat (x : UInt32) (n : Nat) (h1 : 1 ≤ n) (h2 : n ≤ 31) (w : World) :
    Calls Tryz.prog 103 #[.int .u32 (n32 x), .int .i64 (n : Int)] w fun e w' => e = .returned (.int .u32 (n32 (turn x n))) ∧ Ext w w' := by
  have hw : IntKind.i64.wrap (-(n : Int)) = -(n : Int) := by rw [IntKind.wrap_i64]; omega
  have hw' : wrap64 (-(n : Int)) = -(n : Int) := by unfold wrap64; omega
  go_enter Tryz.func103, Tryz.ntmps103
  go_wp2_with (first | (go_at_call 104; refine (rotl_nat x n h1 h2 _).mono ?_; rintro e w1 ⟨rfl, hxq⟩; obtain ⟨xq, rfl⟩ := hxq.out; clear hxq) | fail)
  go_ret
  exact ⟨rfl, (by repeat (first | (with_reducible first | exact Ext.refl _ | assumption | apply Ext.alloc | apply Ext.ext | apply Ext.drew | refine Ext.setCell ?_ ?_ _) | (focus (simp [go_sem]; done))))⟩
theorem rotate_any (x : UInt32) (n : Nat) (h1 : 1 ≤ n) (h2 : n ≤ 31) (w : World) :
    Calls Tryz.prog 103 #[.int .u32 (n32 x), .int .i64 (OfNat.ofNat n)] w fun e w' => e = .returned (.int .u32 (n32 (turn x n))) ∧ Ext w w' := rotate_nat x n h1 h2 w

theorem RW8 : RowT Tryz.prog 120 8 := ⟨⟨_, Tryz.underlying120, rfl⟩, by kernel_rfl, ⟨_, Tryz.zeroValue120, by kernel_rfl⟩⟩
set_option maxRecDepth 100000 in
set_option maxHeartbeats 2000000 in
theorem hfirst_any (w : World) : Calls Tryz.prog 98 #[] w fun e w' => e = .returned (.agg (h0.map u32v).toArray) ∧ Ext w w' := by
  go_enter Tryz.func98, Tryz.ntmps98
  go_wp2
  refine bodyPost_ret (results_arr Tryz.results98 (RW8) _ _ (w.heap.size) (0) (h0.map u32v) rfl ((Blk.new _ _ _).rd) (rfl)) rfl ?_
  exact ⟨rfl, (by repeat (first | (with_reducible first | exact Ext.refl _ | assumption | apply Ext.alloc | apply Ext.ext | apply Ext.drew | refine Ext.setCell ?_ ?_ _) | (focus (simp [go_sem]; done))))⟩
set_option maxRecDepth 100000 in
set_option maxHeartbeats 2000000 in
theorem hconsts_any (w : World) : Calls Tryz.prog 101 #[] w fun e w' => ∃ g, e = .returned (.pointer (some ⟨g, 0, none⟩)) ∧ w.heap.size ≤ g ∧ Blk w' g 80 (ks.map u32v) ∧ Ext w w' := by
  go_enter Tryz.func101, Tryz.ntmps101
  go_wp2
  go_ret
  exact ⟨_, rfl, Nat.le_refl _, Blk.new _ _ _, (by repeat (first | (with_reducible first | exact Ext.refl _ | assumption | apply Ext.alloc | apply Ext.ext | apply Ext.drew | refine Ext.setCell ?_ ?_ _) | (focus (simp [go_sem]; done))))⟩

theorem round_list (W : List UInt32) (a0 a1 a2 a3 a4 a5 a6 a7 : UInt32) (t : Nat) (x y : UInt32) (hx : x = t1 [a0, a1, a2, a3, a4, a5, a6, a7] (w' ks t) (w' W t)) (hy : y = t2 [a0, a1, a2, a3, a4, a5, a6, a7]) :
    round W [a0, a1, a2, a3, a4, a5, a6, a7] t = [x + y, a0, a1, a2, a3 + x, a4, a5, a6] := by subst hx hy; rfl
theorem rounds_length (W h : List UInt32) (hl : h.length = 8) (t : Nat) : (rounds W h t).length = 8 := by
  cases t with
  | zero => exact hl
  | succ t => rfl
theorem list8 (l : List UInt32) (h : l.length = 8) : ∃ a0 a1 a2 a3 a4 a5 a6 a7, l = [a0, a1, a2, a3, a4, a5, a6, a7] := by
  match l, h with
  | [a0, a1, a2, a3, a4, a5, a6, a7], _ => exact ⟨a0, a1, a2, a3, a4, a5, a6, a7, rfl⟩

set_option maxRecDepth 100000 in
set_option maxHeartbeats 8000000 in
theorem hblock_any (g gk : Nat) (ab : Option Addr) (cb : Nat) (T TK : TypeId) (h : List UInt32) (b : List UInt8) (w : World) (HB : Blk w g T (h.map u32v)) (hhl : h.length = 8) (Hk : Blk w gk TK (ks.map u32v)) (hgk : gk ≠ g) (Hb : Sl w ab 64 b) :
    Calls Tryz.prog 102 #[.pointer (some ⟨g, 0, none⟩), .slice ab 64 cb, .pointer (some ⟨gk, 0, none⟩)] w fun e w' => e = .returned (.tuple #[]) ∧ Blk w' g T ((block h b).map u32v) ∧ Mut g w w' := by
  have hkl : ks.length = 64 := rfl
  generalize hks : ks = kk at Hk hkl
  go_enter Tryz.func102, Tryz.ntmps102
  go_wp2
  obtain ⟨b0, o0, rfl, hb0, _⟩ := Hb.atD 0 (by omega)
  haveI hgB := HB.blt
  haveI hkB := Hk.blt
  have hal : Tryz.prog.arrayLen 80 = 64 := by kernel_rfl
  have hal8 : Tryz.prog.arrayLen 120 = 8 := by kernel_rfl
  have HbL := Hb.len
  go_loopw [7, 20] (fun _ v20 wr => ∃ k : Nat, k ≤ 16 ∧ v20 = .int .i64 k ∧ Blk wr w.heap.size 80 ((pad0 ((List.range k).map (inW b)) 64).map u32v) ∧ Ext w wr) (fun _ v20 _ => 16 - (intOf v20).toNat)
  case atStart => exact ⟨0, by omega, rfl, Blk.new _ _ _, Ext.of_alloc _ _⟩
  case round =>
    obtain ⟨k, hk, rfl, hBr, hxw⟩ := hrel
    by_cases hlt : k < 16
    · obtain ⟨vT, hvT⟩ := hBr.there32 (k := k) (by simp; omega) (by omega)
      have at4 : ∀ j, j < 4 → wr.cell? ⟨b0, o0 + (4 * k + j), none⟩ = some (.int .u8 (n8 (b' b (4 * k + j)))) := fun j hj => by
        obtain ⟨b1, o1, he, _, hc⟩ := (Hb.ext hxw).atD (4 * k + j) (by omega)
        injection he with he
        injection he with e1 e2
        subst e1 e2
        exact hc
      have c0 := at4 0 (by omega)
      have c1 := at4 1 (by omega)
      have c2 := at4 2 (by omega)
      have c3 := at4 3 (by omega)
      clear at4
      rw [Nat.add_zero] at c0
      haveI : BlkLt b0 wr := ⟨Nat.lt_of_lt_of_le hb0.lt hxw.size⟩
      haveI := hBr.blt
      have hf := hBr.free k
      have k0 : (0 : Int) ≤ (k : Int) := by omega
      have k1 : (k : Int) < 16 := by omega
      have k2 : (k : Int) < 64 := by omega
      have d0 : (0 : Int) ≤ 4 * (k : Int) := by omega
      have d1 : 4 * (k : Int) < 64 := by omega
      have d2 : (4 * (k : Int)).toNat = 4 * k := by omega
      have d3 : (4 * (k : Int) + 1).toNat = 4 * k + 1 := by omega
      have d4 : (4 * (k : Int) + 2).toNat = 4 * k + 2 := by omega
      have d5 : (4 * (k : Int) + 3).toNat = 4 * k + 3 := by omega
      have d6 : 4 * (k : Int) + 1 < 64 := by omega
      have d7 : 4 * (k : Int) + 2 < 64 := by omega
      have d8 : 4 * (k : Int) + 3 < 64 := by omega
      have d9 : (0 : Int) ≤ 4 * (k : Int) + 1 := by omega
      have d10 : (0 : Int) ≤ 4 * (k : Int) + 2 := by omega
      have d11 : (0 : Int) ≤ 4 * (k : Int) + 3 := by omega
      have HI := Lib.hid (show inW b k = (b' b (4 * k)).toUInt32 <<< 24 ||| (b' b (4 * k + 1)).toUInt32 <<< 16 ||| (b' b (4 * k + 2)).toUInt32 <<< 8 ||| (b' b (4 * k + 3)).toUInt32 from rfl)
      go_wp2
      refine wp_region_vague 35 [[], [], [], [2], [1, 2, 3], [1, 2, 3, 4], [1, 2, 3, 4, 5], [1, 2, 3, 4, 5, 6], [], [], [9], [9, 10], [8, 9, 10, 11], [8, 9, 10, 11, 12], [8, 9, 10, 11, 12, 13], [8, 9, 10, 11, 12, 13, 14], [1, 2, 3, 4, 5, 6, 7, 8, 9, 10, 11, 12, 13, 14, 15], [], [], [18], [18, 19], [17, 18, 19, 20], [17, 18, 19, 20, 21], [17, 18, 19, 20, 21, 22], [17, 18, 19, 20, 21, 22, 23], [1, 2, 3, 4, 5, 6, 7, 8, 9, 10, 11, 12, 13, 14, 15, 16, 17, 18, 19, 20, 21, 22, 23, 24], [], [], [27], [27, 28], [26, 27, 28, 29], [26, 27, 28, 29, 30], [26, 27, 28, 29, 30, 31], [1, 2, 3, 4, 5, 6, 7, 8, 9, 10, 11, 12, 13, 14, 15, 16, 17, 18, 19, 20, 21, 22, 23, 24, 25, 26, 27, 28, 29, 30, 31, 32], [0, 1, 2, 3, 4, 5, 6, 7, 8, 9, 10, 11, 12, 13, 14, 15, 16, 17, 18, 19, 20, 21, 22, 23, 24, 25, 26, 27, 28, 29, 30, 31, 32, 33], [0, 1, 2, 3, 4, 5, 6, 7, 8, 9, 10, 11, 12, 13, 14, 15, 16, 17, 18, 19, 20, 21, 22, 23, 24, 25, 26, 27, 28, 29, 30, 31, 32, 33, 34]] (by kernel_rfl) (by kernel_rfl) (by kernel_rfl) (by kernel_rfl) ?_; simp only [List.take_succ_cons, List.take_zero, List.drop_succ_cons, List.drop_zero, List.take_nil, List.drop_nil]
      (repeat (apply VD_der; (case h => (intro us w' hx hf; obtain ⟨x, rfl⟩ := hx.out; refine ⟨rfl, ?_⟩; simp [go_sem, execOp, *]; (try simp (disch := omega) only [Go.IntWalk.i64_in, Go.IntWalk.rem_in, Go.IntWalk.wrap64_in]); rfl)); (try simp only [Act.put, List.setIfInBounds_toArray, List.set_cons_succ, List.set_cons_zero])))
      (refine VD_nil ?_; intro us w' hx hf; obtain ⟨x, rfl⟩ := hx.out; (try simp only [Act.put, List.setIfInBounds_toArray, List.set_cons_succ, List.set_cons_zero, wpList_none]); (try simp only [List.mem_cons, List.not_mem_nil, or_false, forall_eq_or_imp, forall_eq, List.nil_append, List.cons_append, List.mem_append, false_or, true_and, and_true] at hf); (try simp only [Nat.reduceAdd, Nat.zero_add] at hf); (try simp only [Nat.reduceAdd, Nat.zero_add]))
      go_wp2
      go_roundw
      case rel =>
        refine ⟨k + 1, by omega, by go_num, ?_, (by repeat (first | (with_reducible first | exact Ext.refl _ | assumption | apply Ext.alloc | apply Ext.ext | apply Ext.drew | refine Ext.setCell ?_ ?_ _) | (focus (simp [go_sem]; done))))⟩
        rw [List.range_succ, List.map_append, List.map_cons, List.map_nil, HI.out]
        exact Blk.push32 (by repeat (with_reducible first | assumption | apply Blk.ext | apply Blk.drew | apply Blk.alloc)) (by simp) (by omega) _
      case measure => simp [intOf]; omega
    · obtain rfl : k = 16 := (by omega); (try simp only [Nat.reduceAdd, Nat.reduceMul, Nat.reduceDiv, Nat.reduceSub, Int.cast_ofNat_Int])
      have hBr : Blk wr w.heap.size 80 ((pad0 (sched b 0) 64).map u32v) := hBr
      go_wp2
      obtain ⟨wo, rfl⟩ : ∃ wo : World, wo = wr := ⟨_, rfl⟩
      go_loopw [8, 9, 10, 11, 12] (fun v8 _ _ _ _ wr => ∃ k : Nat, k ≤ 48 ∧ v8 = .int .i64 ((k + 16 : Nat) : Int) ∧ Blk wr w.heap.size 80 ((pad0 (sched b k) 64).map u32v) ∧ Ext w wr) (fun v8 _ _ _ _ _ => 64 - (intOf v8).toNat)
      case atStart => exact ⟨0, by omega, rfl, hBr, hxw⟩
      case round =>
        obtain ⟨k, hk, rfl, hBk, hxk⟩ := hrel
        have hWl := sched_length b k
        by_cases hlt : k < 48
        · have HN := Lib.hid (show sched b (k + 1) = sched b k ++ [nextW (sched b k) (k + 16)] from rfl)
          have HX := Lib.hid (nextW_eq (sched b k) k)
          generalize sched b k = W at *
          obtain ⟨vT, hvT⟩ := hBk.there32 (k := k + 16) (by omega) (by omega)
          have c1 := hBk.at32 (k + 1) (by omega)
          have c2 := hBk.at32 (k + 14) (by omega)
          have c3 := hBk.at32 (k + 9) (by omega)
          have c4 := hBk.at32 k (by omega)
          obtain ⟨x1, hx1⟩ : ∃ v, v = W.getD (k + 1) 0 := ⟨_, rfl⟩
          obtain ⟨x2, hx2⟩ : ∃ v, v = W.getD (k + 14) 0 := ⟨_, rfl⟩
          obtain ⟨x3, hx3⟩ : ∃ v, v = W.getD (k + 9) 0 := ⟨_, rfl⟩
          obtain ⟨x4, hx4⟩ : ∃ v, v = W.getD k 0 := ⟨_, rfl⟩
          have HX2 := Lib.hid (show nextW W (k + 16) = (turn x2 17 ^^^ turn x2 19 ^^^ (x2 >>> 10)) + x3 + (turn x1 7 ^^^ turn x1 18 ^^^ (x1 >>> 3)) + x4 by rw [HX.out, hx1, hx2, hx3, hx4]; rfl)
          rw [← hx1] at c1
          rw [← hx2] at c2
          rw [← hx3] at c3
          rw [← hx4] at c4
          clear hx1 hx2 hx3 hx4
          haveI := hBk.blt
          have hf := hBk.free (k + 16)
          have k0 : (0 : Int) ≤ (k : Int) := by omega
          have k1 : (k : Int) < 48 := by omega
          have d1 : ((k : Int) + 16 - 15).toNat = k + 1 := by omega
          have d2 : ((k : Int) + 16 - 2).toNat = k + 14 := by omega
          have d3 : ((k : Int) + 16 - 7).toNat = k + 9 := by omega
          have d4 : ((k : Int) + 16 - 16).toNat = k := by omega
          have d0 : ((k : Int) + 16).toNat = k + 16 := by omega
          have e1 : (0 : Int) ≤ (k : Int) + 16 - 15 := by omega
          have e2 : (0 : Int) ≤ (k : Int) + 16 - 2 := by omega
          have e3 : (0 : Int) ≤ (k : Int) + 16 - 7 := by omega
          have e4 : (0 : Int) ≤ (k : Int) + 16 - 16 := by omega
          have f1 : (k : Int) + 16 - 15 < 64 := by omega
          have f2 : (k : Int) + 16 - 2 < 64 := by omega
          have f3 : (k : Int) + 16 - 7 < 64 := by omega
          have f4 : (k : Int) + 16 - 16 < 64 := by omega
          have g1 : (15 : Int) ≤ (k : Int) + 16 := by omega
          have g2 : (2 : Int) ≤ (k : Int) + 16 := by omega
          have g3 : (7 : Int) ≤ (k : Int) + 16 := by omega
          have g4 : (16 : Int) ≤ (k : Int) + 16 := by omega
          have f5 : (k : Int) < 64 := by omega
          have f0 : (k : Int) + 16 < 64 := by omega
          have e0 : (0 : Int) ≤ (k : Int) + 16 := by omega
          go_wp2
          refine wp_region_vague 10 [[], [0], [0, 1], [0, 1, 2], [], [4], [4, 5], [4, 5, 6], [0, 1, 2, 3], [0, 1, 2, 3, 4, 5, 6, 7, 8]] (by kernel_rfl) (by kernel_rfl) (by kernel_rfl) (by kernel_rfl) ?_; simp only [List.take_succ_cons, List.take_zero, List.drop_succ_cons, List.drop_zero, List.take_nil, List.drop_nil]
          (repeat (apply VD_der; (case h => (intro us w' hx hf; obtain ⟨x, rfl⟩ := hx.out; refine ⟨rfl, ?_⟩; simp [go_sem, execOp, *]; (try simp (disch := omega) only [Go.IntWalk.i64_in, Go.IntWalk.rem_in, Go.IntWalk.wrap64_in]); rfl)); (try simp only [Act.put, List.setIfInBounds_toArray, List.set_cons_succ, List.set_cons_zero])))
          (refine VD_nil ?_; intro us w' hx hf; obtain ⟨x, rfl⟩ := hx.out; (try simp only [Act.put, List.setIfInBounds_toArray, List.set_cons_succ, List.set_cons_zero, wpList_none]); (try simp only [List.mem_cons, List.not_mem_nil, or_false, forall_eq_or_imp, forall_eq, List.nil_append, List.cons_append, List.mem_append, false_or, true_and, and_true] at hf); (try simp only [Nat.reduceAdd, Nat.zero_add] at hf); (try simp only [Nat.reduceAdd, Nat.zero_add]))
          go_wp2_with fail; (with_reducible refine (rotate_any x1 7 (by omega) (by omega) _).mono ?_); rintro e w1 ⟨rfl, hxq⟩; obtain ⟨xq, rfl⟩ := hxq.out; clear hxq
          go_wp2_with fail; (with_reducible refine (rotate_any x1 18 (by omega) (by omega) _).mono ?_); rintro e w1 ⟨rfl, hxq⟩; obtain ⟨xq, rfl⟩ := hxq.out; clear hxq
          go_wp2_with fail; (with_reducible refine (rotate_any x2 17 (by omega) (by omega) _).mono ?_); rintro e w1 ⟨rfl, hxq⟩; obtain ⟨xq, rfl⟩ := hxq.out; clear hxq
          go_wp2_with fail; (with_reducible refine (rotate_any x2 19 (by omega) (by omega) _).mono ?_); rintro e w1 ⟨rfl, hxq⟩; obtain ⟨xq, rfl⟩ := hxq.out; clear hxq
          go_wp2
          refine wp_region_vague 15 [[], [], [], [2], [2, 3], [2, 3, 4], [1, 2, 3, 4, 5], [], [1, 2, 3, 4, 5, 6, 7], [], [9], [9, 10], [9, 10, 11], [1, 2, 3, 4, 5, 6, 7, 8, 9, 10, 11, 12], [0, 1, 2, 3, 4, 5, 6, 7, 8, 9, 10, 11, 12, 13], [0, 1, 2, 3, 4, 5, 6, 7, 8, 9, 10, 11, 12, 13, 14]] (by kernel_rfl) (by kernel_rfl) (by kernel_rfl) (by kernel_rfl) ?_; simp only [List.take_succ_cons, List.take_zero, List.drop_succ_cons, List.drop_zero, List.take_nil, List.drop_nil]
          (repeat (apply VD_der; (case h => (intro us w' hx hf; obtain ⟨x, rfl⟩ := hx.out; refine ⟨rfl, ?_⟩; simp [go_sem, execOp, *]; (try simp (disch := omega) only [Go.IntWalk.i64_in, Go.IntWalk.rem_in, Go.IntWalk.wrap64_in]); rfl)); (try simp only [Act.put, List.setIfInBounds_toArray, List.set_cons_succ, List.set_cons_zero])))
          (refine VD_nil ?_; intro us w' hx hf; obtain ⟨x, rfl⟩ := hx.out; (try simp only [Act.put, List.setIfInBounds_toArray, List.set_cons_succ, List.set_cons_zero, wpList_none]); (try simp only [List.mem_cons, List.not_mem_nil, or_false, forall_eq_or_imp, forall_eq, List.nil_append, List.cons_append, List.mem_append, false_or, true_and, and_true] at hf); (try simp only [Nat.reduceAdd, Nat.zero_add] at hf); (try simp only [Nat.reduceAdd, Nat.zero_add]))
          go_wp2
          go_roundw
          case rel =>
            refine ⟨k + 1, by omega, by go_num, ?_, (by repeat (first | (with_reducible first | exact Ext.refl _ | assumption | apply Ext.alloc | apply Ext.ext | apply Ext.drew | refine Ext.setCell ?_ ?_ _) | (focus (simp [go_sem]; done))))⟩
            rw [HN.out, HX2.out]
            exact Blk.push32 (by repeat (with_reducible first | assumption | apply Blk.ext | apply Blk.drew | apply Blk.alloc)) (by omega) (by omega) _
          case measure => simp [intOf]; omega
        · obtain ⟨W, hWW⟩ : ∃ l, Hid (l = sched b k) := ⟨_, Lib.hid rfl⟩
          rw [← hWW.out] at hBk hWl
          obtain rfl : k = 48 := (by omega); (try simp only [Nat.reduceAdd, Nat.reduceMul, Nat.reduceDiv, Nat.reduceSub, Int.cast_ofNat_Int])
          have HBk := HB.extB hxk
          haveI : BlkLt g wr := HBk.blt
          go_wp2_with (first
            | (refine wpList_load_arr (RW8) rfl _ rfl (g) (0) rfl (h.map u32v) (HBk.rd) ((by simpa using hhl)) ?_)
            | (refine wpList_alloc_store (RW8) rfl rfl _ _ rfl rfl rfl rfl (by simp [Act.put]) (h.map u32v) rfl (by simp) ((by simpa using hhl)) (one_u32 _) ?_; intro x hBx _))
          obtain ⟨gv, hgv⟩ : ∃ gv, gv = wr.heap.size := ⟨_, rfl⟩
          rw [← hgv] at hBx ⊢
          have hxe : Ext w (wr.ext x) := hxk.trans (Ext.of_ext _ _)
          have hgw : w.heap.size < gv := by have := hBk.lt; omega
          have hBw : Blk (wr.ext x) w.heap.size 80 ((pad0 W 64).map u32v) := hBk.ext x
          clear HBk hBk hxk hBr hxw
          generalize wr.ext x = wy at *
          clear hgv
          go_loopw [14, 15, 16, 17, 18, 105] (fun _ _ _ _ _ v105 wr => ∃ t : Nat, t ≤ 64 ∧ v105 = .int .i64 t ∧ Blk wr gv 120 ((rounds W h t).map u32v) ∧ Mut gv wy wr) (fun _ _ _ _ _ v105 _ => 64 - (intOf v105).toNat)
          case atStart => exact ⟨0, by omega, rfl, hBx, Mut.refl _ _⟩
          case round =>
            obtain ⟨t, ht, rfl, hBv, hM⟩ := hrel
            by_cases hlt3 : t < 64
            · have HR := Lib.hid (show rounds W h (t + 1) = round W (rounds W h t) t from rfl)
              have hvl := rounds_length W h hhl t
              generalize rounds W h t = v at *
              obtain ⟨a0, a1, a2, a3, a4, a5, a6, a7, rfl⟩ := list8 v hvl
              have hKr : Blk wr gk TK (kk.map u32v) := Blk.turn hM (Hk.extB hxe) (by have := Hk.lt; omega)
              have hWr := Blk.turn hM hBw (by omega)
              have ck : wr.cell? ⟨gk, t, none⟩ = some (.int .u32 (n32 (kk.getD t 0))) := hKr.cell? t (by rw [List.getElem?_map, List.getElem?_eq_getElem (by omega)]; simp [show t < kk.length by omega])
              have cw := hWr.at32 t (by omega)
              obtain ⟨kt, hkt⟩ : ∃ x, x = kk.getD t 0 := ⟨_, rfl⟩
              obtain ⟨wt, hwt⟩ : ∃ x, x = W.getD t 0 := ⟨_, rfl⟩
              rw [← hkt] at ck
              rw [← hwt] at cw
              obtain ⟨T1, hT1⟩ : ∃ x, x = a7 + (turn a4 6 ^^^ turn a4 11 ^^^ turn a4 25) + ((a4 &&& a5) ^^^ (~~~ a4 &&& a6)) + kt + wt := ⟨_, rfl⟩
              obtain ⟨T2, hT2⟩ : ∃ x, x = (turn a0 2 ^^^ turn a0 13 ^^^ turn a0 22) + ((a0 &&& a1) ^^^ (a0 &&& a2) ^^^ (a1 &&& a2)) := ⟨_, rfl⟩
              have HV := Lib.hid (round_list W a0 a1 a2 a3 a4 a5 a6 a7 t T1 T2 (by rw [hT1, hkt, hwt, ← hks]; rfl) (by rw [hT2]; rfl))
              have HT1 := Lib.hid hT1
              have HT2 := Lib.hid hT2
              clear hkt hwt hT1 hT2
              haveI := hKr.blt
              haveI := hWr.blt
              haveI := hBv.blt
              simp only [List.map_cons, List.map_nil] at hBv
              have v0 := hBv.cell? 0 rfl
              have v1 := hBv.cell? 1 rfl
              have v2 := hBv.cell? 2 rfl
              have v4 := hBv.cell? 4 rfl
              have v5 := hBv.cell? 5 rfl
              have v6 := hBv.cell? 6 rfl
              have v7 := hBv.cell? 7 rfl
              have k0 : (0 : Int) ≤ (t : Int) := by omega
              have k1 : (t : Int) < 64 := by omega
              go_wp2
              refine wp_region_vague 6 [[], [0], [], [2], [0, 1], [0, 1, 2, 3, 4]] (by kernel_rfl) (by kernel_rfl) (by kernel_rfl) (by kernel_rfl) ?_; simp only [List.take_succ_cons, List.take_zero, List.drop_succ_cons, List.drop_zero, List.take_nil, List.drop_nil]
              (repeat (apply VD_der; (case h => (intro us w' hx hf; obtain ⟨x, rfl⟩ := hx.out; refine ⟨rfl, ?_⟩; simp [go_sem, execOp, *]; (try simp (disch := omega) only [Go.IntWalk.i64_in, Go.IntWalk.rem_in, Go.IntWalk.wrap64_in]); rfl)); (try simp only [Act.put, List.setIfInBounds_toArray, List.set_cons_succ, List.set_cons_zero])))
              (refine VD_nil ?_; intro us w' hx hf; obtain ⟨x, rfl⟩ := hx.out; (try simp only [Act.put, List.setIfInBounds_toArray, List.set_cons_succ, List.set_cons_zero, wpList_none]); (try simp only [List.mem_cons, List.not_mem_nil, or_false, forall_eq_or_imp, forall_eq, List.nil_append, List.cons_append, List.mem_append, false_or, true_and, and_true] at hf); (try simp only [Nat.reduceAdd, Nat.zero_add] at hf); (try simp only [Nat.reduceAdd, Nat.zero_add]))
              go_wp2
              refine wp_region_vague 33 [[], [0], [], [2], [], [2, 3, 4], [2, 3, 4, 5], [], [2, 3, 4, 5, 7], [2, 3, 4, 5, 6, 7, 8], [0, 1, 2, 3, 4, 5, 6, 7, 8, 9], [], [], [12], [11, 12, 13], [], [15], [], [17], [15, 16, 17, 18], [11, 12, 13, 14, 15, 16, 17, 18, 19], [0, 1, 2, 3, 4, 5, 6, 7, 8, 9, 10, 11, 12, 13, 14, 15, 16, 17, 18, 19, 20], [], [], [22], [22, 23, 24], [22, 23, 24, 25], [0, 1, 2, 3, 4, 5, 6, 7, 8, 9, 10, 11, 12, 13, 14, 15, 16, 17, 18, 19, 20, 21, 22, 23, 24, 25, 26], [], [28], [28, 29], [0, 1, 2, 3, 4, 5, 6, 7, 8, 9, 10, 11, 12, 13, 14, 15, 16, 17, 18, 19, 20, 21, 22, 23, 24, 25, 26, 27, 28, 29, 30], [0, 1, 2, 3, 4, 5, 6, 7, 8, 9, 10, 11, 12, 13, 14, 15, 16, 17, 18, 19, 20, 21, 22, 23, 24, 25, 26, 27, 28, 29, 30, 31]] (by kernel_rfl) (by kernel_rfl) (by kernel_rfl) (by kernel_rfl) ?_; simp only [List.take_succ_cons, List.take_zero, List.drop_succ_cons, List.drop_zero, List.take_nil, List.drop_nil]
              (repeat (apply VD_der; (case h => (intro us w' hx hf; obtain ⟨x, rfl⟩ := hx.out; refine ⟨rfl, ?_⟩; simp [go_sem, execOp, *]; (try simp (disch := omega) only [Go.IntWalk.i64_in, Go.IntWalk.rem_in, Go.IntWalk.wrap64_in]); rfl)); (try simp only [Act.put, List.setIfInBounds_toArray, List.set_cons_succ, List.set_cons_zero])))
              (refine VD_vag (fun _ => .int .u32 (n32 (turn a4 6))) (fun _ _ => True) (fun _ _ _ _ _ => trivial) (fun us w' hx hf => ⟨rfl, ?_⟩) ?_; (unfold gives; simp [go_sem, execOp]; refine (rotate_any a4 6 (by omega) (by omega) _).mono ?_; rintro e w1 ⟨rfl, hx1⟩; first | exact ⟨rfl, hx1⟩ | simpa using hx1))
              (repeat (apply VD_der; (case h => (intro us w' hx hf; obtain ⟨x, rfl⟩ := hx.out; refine ⟨rfl, ?_⟩; simp [go_sem, execOp, *]; (try simp (disch := omega) only [Go.IntWalk.i64_in, Go.IntWalk.rem_in, Go.IntWalk.wrap64_in]); rfl)); (try simp only [Act.put, List.setIfInBounds_toArray, List.set_cons_succ, List.set_cons_zero])))
              (refine VD_vag (fun _ => .int .u32 (n32 (turn a4 11))) (fun _ _ => True) (fun _ _ _ _ _ => trivial) (fun us w' hx hf => ⟨rfl, ?_⟩) ?_; (unfold gives; simp [go_sem, execOp]; refine (rotate_any a4 11 (by omega) (by omega) _).mono ?_; rintro e w1 ⟨rfl, hx1⟩; first | exact ⟨rfl, hx1⟩ | simpa using hx1))
              (repeat (apply VD_der; (case h => (intro us w' hx hf; obtain ⟨x, rfl⟩ := hx.out; refine ⟨rfl, ?_⟩; simp [go_sem, execOp, *]; (try simp (disch := omega) only [Go.IntWalk.i64_in, Go.IntWalk.rem_in, Go.IntWalk.wrap64_in]); rfl)); (try simp only [Act.put, List.setIfInBounds_toArray, List.set_cons_succ, List.set_cons_zero])))
              (refine VD_vag (fun _ => .int .u32 (n32 (turn a4 25))) (fun _ _ => True) (fun _ _ _ _ _ => trivial) (fun us w' hx hf => ⟨rfl, ?_⟩) ?_; (unfold gives; simp [go_sem, execOp]; refine (rotate_any a4 25 (by omega) (by omega) _).mono ?_; rintro e w1 ⟨rfl, hx1⟩; first | exact ⟨rfl, hx1⟩ | simpa using hx1))
              (repeat (apply VD_der; (case h => (intro us w' hx hf; obtain ⟨x, rfl⟩ := hx.out; refine ⟨rfl, ?_⟩; simp [go_sem, execOp, *]; (try simp (disch := omega) only [Go.IntWalk.i64_in, Go.IntWalk.rem_in, Go.IntWalk.wrap64_in]); rfl)); (try simp only [Act.put, List.setIfInBounds_toArray, List.set_cons_succ, List.set_cons_zero])))
              (refine VD_nil ?_; intro us w' hx hf; obtain ⟨x, rfl⟩ := hx.out; (try simp only [Act.put, List.setIfInBounds_toArray, List.set_cons_succ, List.set_cons_zero, wpList_none]); (try simp only [List.mem_cons, List.not_mem_nil, or_false, forall_eq_or_imp, forall_eq, List.nil_append, List.cons_append, List.mem_append, false_or, true_and, and_true] at hf); (try simp only [Nat.reduceAdd, Nat.zero_add] at hf); (try simp only [Nat.reduceAdd, Nat.zero_add]))
              go_wp2
              refine wp_region_vague 25 [[], [0], [], [0, 1, 2], [0, 1, 2, 3], [], [0, 1, 2, 3, 5], [0, 1, 2, 3, 4, 5, 6], [], [], [9], [8, 9, 10], [], [], [13], [12, 13, 14], [8, 9, 10, 11, 12, 13, 14, 15], [], [17], [], [19], [17, 18, 19, 20], [8, 9, 10, 11, 12, 13, 14, 15, 16, 17, 18, 19, 20, 21], [0, 1, 2, 3, 4, 5, 6, 7, 8, 9, 10, 11, 12, 13, 14, 15, 16, 17, 18, 19, 20, 21, 22], [0, 1, 2, 3, 4, 5, 6, 7, 8, 9, 10, 11, 12, 13, 14, 15, 16, 17, 18, 19, 20, 21, 22, 23]] (by kernel_rfl) (by kernel_rfl) (by kernel_rfl) (by kernel_rfl) ?_; simp only [List.take_succ_cons, List.take_zero, List.drop_succ_cons, List.drop_zero, List.take_nil, List.drop_nil]
              (repeat (apply VD_der; (case h => (intro us w' hx hf; obtain ⟨x, rfl⟩ := hx.out; refine ⟨rfl, ?_⟩; simp [go_sem, execOp, *]; (try simp (disch := omega) only [Go.IntWalk.i64_in, Go.IntWalk.rem_in, Go.IntWalk.wrap64_in]); rfl)); (try simp only [Act.put, List.setIfInBounds_toArray, List.set_cons_succ, List.set_cons_zero])))
              (refine VD_vag (fun _ => .int .u32 (n32 (turn a0 2))) (fun _ _ => True) (fun _ _ _ _ _ => trivial) (fun us w' hx hf => ⟨rfl, ?_⟩) ?_; (unfold gives; simp [go_sem, execOp]; refine (rotate_any a0 2 (by omega) (by omega) _).mono ?_; rintro e w1 ⟨rfl, hx1⟩; first | exact ⟨rfl, hx1⟩ | simpa using hx1))
              (repeat (apply VD_der; (case h => (intro us w' hx hf; obtain ⟨x, rfl⟩ := hx.out; refine ⟨rfl, ?_⟩; simp [go_sem, execOp, *]; (try simp (disch := omega) only [Go.IntWalk.i64_in, Go.IntWalk.rem_in, Go.IntWalk.wrap64_in]); rfl)); (try simp only [Act.put, List.setIfInBounds_toArray, List.set_cons_succ, List.set_cons_zero])))
              (refine VD_vag (fun _ => .int .u32 (n32 (turn a0 13))) (fun _ _ => True) (fun _ _ _ _ _ => trivial) (fun us w' hx hf => ⟨rfl, ?_⟩) ?_; (unfold gives; simp [go_sem, execOp]; refine (rotate_any a0 13 (by omega) (by omega) _).mono ?_; rintro e w1 ⟨rfl, hx1⟩; first | exact ⟨rfl, hx1⟩ | simpa using hx1))
              (repeat (apply VD_der; (case h => (intro us w' hx hf; obtain ⟨x, rfl⟩ := hx.out; refine ⟨rfl, ?_⟩; simp [go_sem, execOp, *]; (try simp (disch := omega) only [Go.IntWalk.i64_in, Go.IntWalk.rem_in, Go.IntWalk.wrap64_in]); rfl)); (try simp only [Act.put, List.setIfInBounds_toArray, List.set_cons_succ, List.set_cons_zero])))
              (refine VD_vag (fun _ => .int .u32 (n32 (turn a0 22))) (fun _ _ => True) (fun _ _ _ _ _ => trivial) (fun us w' hx hf => ⟨rfl, ?_⟩) ?_; (unfold gives; simp [go_sem, execOp]; refine (rotate_any a0 22 (by omega) (by omega) _).mono ?_; rintro e w1 ⟨rfl, hx1⟩; first | exact ⟨rfl, hx1⟩ | simpa using hx1))
              (repeat (apply VD_der; (case h => (intro us w' hx hf; obtain ⟨x, rfl⟩ := hx.out; refine ⟨rfl, ?_⟩; simp [go_sem, execOp, *]; (try simp (disch := omega) only [Go.IntWalk.i64_in, Go.IntWalk.rem_in, Go.IntWalk.wrap64_in]); rfl)); (try simp only [Act.put, List.setIfInBounds_toArray, List.set_cons_succ, List.set_cons_zero])))
              (refine VD_nil ?_; intro us w' hx hf; obtain ⟨x, rfl⟩ := hx.out; (try simp only [Act.put, List.setIfInBounds_toArray, List.set_cons_succ, List.set_cons_zero, wpList_none]); (try simp only [List.mem_cons, List.not_mem_nil, or_false, forall_eq_or_imp, forall_eq, List.nil_append, List.cons_append, List.mem_append, false_or, true_and, and_true] at hf); (try simp only [Nat.reduceAdd, Nat.zero_add] at hf); (try simp only [Nat.reduceAdd, Nat.zero_add]))
              go_wp2
              refine wp_region_vague 2 [[], [], [0, 1]] (by kernel_rfl) (by kernel_rfl) (by kernel_rfl) (by kernel_rfl) ?_; simp only [List.take_succ_cons, List.take_zero, List.drop_succ_cons, List.drop_zero, List.take_nil, List.drop_nil]
              (repeat (apply VD_der; (case h => (intro us w' hx hf; obtain ⟨x, rfl⟩ := hx.out; refine ⟨rfl, ?_⟩; simp [go_sem, execOp, *]; (try simp (disch := omega) only [Go.IntWalk.i64_in, Go.IntWalk.rem_in, Go.IntWalk.wrap64_in]); rfl)); (try simp only [Act.put, List.setIfInBounds_toArray, List.set_cons_succ, List.set_cons_zero])))
              (refine VD_nil ?_; intro us w' hx hf; obtain ⟨x, rfl⟩ := hx.out; (try simp only [Act.put, List.setIfInBounds_toArray, List.set_cons_succ, List.set_cons_zero, wpList_none]); (try simp only [List.mem_cons, List.not_mem_nil, or_false, forall_eq_or_imp, forall_eq, List.nil_append, List.cons_append, List.mem_append, false_or, true_and, and_true] at hf); (try simp only [Nat.reduceAdd, Nat.zero_add] at hf); (try simp only [Nat.reduceAdd, Nat.zero_add]))
              refine wpList_copy_vals rfl (.tmp 168) (.tmp 169) _ _ rfl 79 Tryz.underlying66 (by kernel_rfl) gv 1 7 7 gv 0 7 8 rfl rfl 120 [u32v a0, u32v a1, u32v a2, u32v a3, u32v a4, u32v a5, u32v a6, u32v a7] ?hcB ([a0, a1, a2, a3, a4, a5, a6].map u32v) ?hcS rfl (by simp) (one_u32 _) ?_
              case hcB => exact (by repeat (with_reducible first | assumption | apply Blk.ext | apply Blk.drew | apply Blk.alloc))
              case hcS => exact Rd.head (vs := [u32v a0, u32v a1, u32v a2, u32v a3, u32v a4, u32v a5, u32v a6, u32v a7]) (Blk.rd (t := 120) (by repeat (with_reducible first | assumption | apply Blk.ext | apply Blk.drew | apply Blk.alloc))) 7
              intro w2 hB2 hM2
              have hM3 : Mut gv wy w2 := Mut.trans (by repeat (with_reducible first | exact Mut.refl _ _ | assumption | apply Mut.ext | apply Mut.drew | apply Mut.alloc | apply Mut.setCell)) hM2
              clear hM2 hM
              simp only [List.map_cons, List.map_nil, List.take_succ_cons, List.take_zero, List.cons_append, List.nil_append, List.length_cons, List.length_nil, List.drop_succ_cons, List.drop_zero, List.drop_nil, List.append_nil, Nat.reduceAdd] at hB2
              haveI := hB2.blt
              have y4 := hB2.cell? 4 rfl
              have y0 := hB2.cell? 0 rfl
              have z4 := hB2.free 4
              have z0 := hB2.free 0
              go_wp2
              go_roundw
              case rel =>
                refine ⟨t + 1, by omega, by go_num, ?_, (by repeat (with_reducible first | exact Mut.refl _ _ | assumption | apply Mut.ext | apply Mut.drew | apply Mut.alloc | apply Mut.setCell))⟩
                rw [HR.out, HV.out, HT1.out, HT2.out]
                exact (hB2.set 4 _).set 0 _
              case measure => simp [intOf]; omega
            · obtain rfl : t = 64 := (by omega); (try simp only [Nat.reduceAdd, Nat.reduceMul, Nat.reduceDiv, Nat.reduceSub, Int.cast_ofNat_Int])
              have HF := Lib.hid (show block h b = (List.range 8).map fun i => w' h i + w' (rounds W h 64) i by rw [hWW.out]; rfl)
              have hvl := rounds_length W h hhl 64
              generalize rounds W h 64 = v at *
              have hxr : Ext w wr := Below.trans hxe (hM.below (B := w.heap.size) (by omega) hxe.size)
              have hBg := HB.extB hxr
              have hgv2 : g ≠ gv := by have := HB.lt; omega
              clear hBw hBx hM hWW hWl hxe
              go_wp2
              obtain ⟨wq, rfl⟩ : ∃ wq : World, wq = wr := ⟨_, rfl⟩
              go_loopw [19, 181] (fun _ v181 wr => ∃ i : Nat, i ≤ 8 ∧ v181 = .int .i64 i ∧ Blk wr g T ((upW (fun i => w' h i + w' v i) h i).map u32v) ∧ Blk wr gv 120 (v.map u32v) ∧ Mut g wq wr) (fun _ v181 _ => 8 - (intOf v181).toNat)
              case atStart => exact ⟨0, by omega, rfl, by rw [upW_zero]; exact hBg, hBv, Mut.refl _ _⟩
              case round =>
                obtain ⟨i, hi, rfl, hBi, hBj, hMi⟩ := hrel
                by_cases hlt4 : i < 8
                · have ci : wr.cell? ⟨g, i, none⟩ = some (.int .u32 (n32 (w' h i))) := hBi.cell? i (by rw [List.getElem?_map, upW_get _ _ _ (by omega)]; rfl)
                  have cj : wr.cell? ⟨gv, i, none⟩ = some (.int .u32 (n32 (w' v i))) := hBj.cell? i (by rw [List.getElem?_map, List.getElem?_eq_getElem (by omega)]; simp [w', show i < v.length by omega])
                  have HU := Lib.hid (upW_set (fun i => w' h i + w' v i) h i (by omega))
                  have zi := hBi.free i
                  haveI := hBi.blt
                  haveI := hBj.blt
                  have k0 : (0 : Int) ≤ (i : Int) := by omega
                  have k1 : (i : Int) < 8 := by omega
                  go_wp2
                  refine wp_region_vague 11 [[], [], [0], [0, 1, 2], [0, 1, 2, 3], [], [5], [5, 6], [0, 1, 2, 3, 4, 5, 6, 7], [0], [0, 1, 2, 3, 4, 5, 6, 7, 8, 9], [0, 1, 2, 3, 4, 5, 6, 7, 8, 9, 10]] (by kernel_rfl) (by kernel_rfl) (by kernel_rfl) (by kernel_rfl) ?_; simp only [List.take_succ_cons, List.take_zero, List.drop_succ_cons, List.drop_zero, List.take_nil, List.drop_nil]
                  (repeat (apply VD_der; (case h => (intro us w' hx hf; obtain ⟨x, rfl⟩ := hx.out; refine ⟨rfl, ?_⟩; simp [go_sem, execOp, *]; (try simp (disch := omega) only [Go.IntWalk.i64_in, Go.IntWalk.rem_in, Go.IntWalk.wrap64_in]); rfl)); (try simp only [Act.put, List.setIfInBounds_toArray, List.set_cons_succ, List.set_cons_zero])))
                  (refine VD_nil ?_; intro us w' hx hf; obtain ⟨x, rfl⟩ := hx.out; (try simp only [Act.put, List.setIfInBounds_toArray, List.set_cons_succ, List.set_cons_zero, wpList_none]); (try simp only [List.mem_cons, List.not_mem_nil, or_false, forall_eq_or_imp, forall_eq, List.nil_append, List.cons_append, List.mem_append, false_or, true_and, and_true] at hf); (try simp only [Nat.reduceAdd, Nat.zero_add] at hf); (try simp only [Nat.reduceAdd, Nat.zero_add]))
                  go_wp2
                  go_roundw
                  case rel =>
                    refine ⟨i + 1, by omega, by go_num, ?_, Blk.other (by repeat (with_reducible first | assumption | apply Blk.ext | apply Blk.drew | apply Blk.alloc)) (by simp; omega) _, (by repeat (with_reducible first | exact Mut.refl _ _ | assumption | apply Mut.ext | apply Mut.drew | apply Mut.alloc | apply Mut.setCell))⟩
                    rw [← HU.out]
                    have := (show Blk (wr.ext x) g T _ from hBi.ext x).set i (u32v (w' h i + w' v i))
                    rwa [← List.map_set] at this
                  case measure => simp [intOf]; omega
                · obtain rfl : i = 8 := (by omega); (try simp only [Nat.reduceAdd, Nat.reduceMul, Nat.reduceDiv, Nat.reduceSub, Int.cast_ofNat_Int])
                  go_wp2
                  go_end0
                  rw [upW_all _ _ _ hhl] at hBi
                  rw [HF.out]
                  exact ⟨rfl, hBi, (Mut.of_ext hxr).trans hMi⟩
end Go.Proofs.YtbfgeokngekdmaaGreat
