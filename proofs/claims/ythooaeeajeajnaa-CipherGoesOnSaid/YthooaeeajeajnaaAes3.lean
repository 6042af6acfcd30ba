/- The walks of AES-128, part three: the keys. -/
import Derived.Test.YthooaeeajeajnaaAes2
import Derived.Test.YthooaeeajeajnaaGrow
import Derived.Test.YthooaeeajeajnaaArr2
namespace Go.Proofs.Ythooaeeajeajnaa
open Go.RowKit Go.Sec Go.Oct Go.Aes BigFrame

theorem R99 : RowT Try.prog 99 4 := ⟨⟨_, Try.underlying99, rfl⟩, by kernel_rfl, ⟨_, Try.zeroValue99, rfl⟩⟩
theorem R80 : RowT Try.prog 80 176 := ⟨⟨_, Try.underlying80, rfl⟩, by kernel_rfl, ⟨_, Try.zeroValue80, by kernel_rfl⟩⟩

theorem drop4 (l : List UInt8) (i : Nat) (h : i + 4 ≤ l.length) : (l.drop i).take 4 = [at' l i, at' l (i + 1), at' l (i + 2), at' l (i + 3)] := by
  apply List.ext_getElem
  · simp; omega
  · intro j h1 h2
    simp at h2
    have : j = 0 ∨ j = 1 ∨ j = 2 ∨ j = 3 := by omega
    rcases this with rfl | rfl | rfl | rfl <;> simp <;> rw [at_get _ _ (by omega)]
/-- What word i is reckoned from. -/
def tmp4 (ws : List UInt8) (i : Nat) : List UInt8 :=
  if i % 4 = 0 then [sub (at' ws (4 * i - 3)) ^^^ con (i / 4 - 1), sub (at' ws (4 * i - 2)), sub (at' ws (4 * i - 1)), sub (at' ws (4 * i - 4))]
  else [at' ws (4 * i - 4), at' ws (4 * i - 3), at' ws (4 * i - 2), at' ws (4 * i - 1)]
def wordF (ws t : List UInt8) (i r : Nat) : UInt8 := at' ws (4 * i - 16 + r) ^^^ at' t r
theorem tmp4_length (ws : List UInt8) (i : Nat) : (tmp4 ws i).length = 4 := by unfold tmp4; split <;> rfl
theorem word_eq (ws : List UInt8) (i : Nat) (h4 : 4 ≤ i) (h : 4 * i ≤ ws.length) : word ws i = (List.range 4).map (wordF ws (tmp4 ws i) i) := by
  have e1 : 4 * i - 4 + 1 = 4 * i - 3 := by omega
  have e2 : 4 * i - 4 + 2 = 4 * i - 2 := by omega
  have e3 : 4 * i - 4 + 3 = 4 * i - 1 := by omega
  have e4 : 4 * i - 16 + 1 = 4 * i - 15 := by omega
  have e5 : 4 * i - 16 + 2 = 4 * i - 14 := by omega
  have e6 : 4 * i - 16 + 3 = 4 * i - 13 := by omega
  have ht := drop4 ws (4 * i - 4) (by omega)
  rw [e1, e2, e3] at ht
  simp only [word, ht, tmp4, wordF, List.range_succ, List.range_zero, List.nil_append, List.cons_append, List.map_cons, List.map_nil, e4, e5, e6, Nat.add_zero]
  split <;> rfl
theorem index4 (t : List UInt8) (h : t.length = 4) (r : Nat) (hr : r < 4) (W : World) : (Instr.index 99 (.agg (t.map u8v).toArray) (.int .i64 (r : Int))).run Try.prog W = .ok (.int .u8 (n8 (at' t r))) W := by
  match t, h with
  | [x0, x1, x2, x3], _ =>
    have h : ∀ (x0 x1 x2 x3 : Value), (Instr.index 99 (.agg #[x0, x1, x2, x3]) (.int .i64 0)).run Try.prog W = .ok x0 W ∧ (Instr.index 99 (.agg #[x0, x1, x2, x3]) (.int .i64 1)).run Try.prog W = .ok x1 W ∧ (Instr.index 99 (.agg #[x0, x1, x2, x3]) (.int .i64 2)).run Try.prog W = .ok x2 W ∧ (Instr.index 99 (.agg #[x0, x1, x2, x3]) (.int .i64 3)).run Try.prog W = .ok x3 W := fun _ _ _ _ => ⟨by kernel_rfl, by kernel_rfl, by kernel_rfl, by kernel_rfl⟩
    obtain ⟨h0, h1, h2, h3⟩ := h (u8v x0) (u8v x1) (u8v x2) (u8v x3)
    have : r = 0 ∨ r = 1 ∨ r = 2 ∨ r = 3 := by omega
    rcases this with rfl | rfl | rfl | rfl
    · exact h0
    · exact h1
    · exact h2
    · exact h3

set_option maxRecDepth 100000 in
set_option maxHeartbeats 4000000 in
theorem new_any (a : Option Addr) (c : Nat) (ky : List UInt8) (w : World) (h : Sl w a 16 ky) (hc : 16 ≤ c) :
    Calls Try.prog 56 #[.slice a 16 c] w fun e w' => ∃ g, e = .returned (.pointer (some ⟨g, 0, none⟩)) ∧ w.heap.size ≤ g ∧ Blk w' g 80 ((expand ky).map u8v) ∧ Ext w w' := by
  have har := fun W a len cap => run_arrayAt (P := Try.prog) W 99 5 4 a len cap Try.underlying99
  have har2 := fun W a len cap => run_arrayAt (P := Try.prog) W 60 5 16 a len cap Try.underlying60
  go_enter Try.func56, Try.ntmps56
  go_wp2_with fail
  refine (clone_any _ 16 _ ky _ h (by omega)).mono ?_
  rintro e w1 ⟨a1, c1, rfl, hO1, hx1⟩
  go_wp2_with fail
  refine (grow_any w.heap.size a1 16 c1 160 ky _ hO1 hx1.size (by omega) (by omega)).mono ?_
  rintro e w2 ⟨a2, c2, rfl, hO2, hx2⟩
  go_wp2_with fail
  have hkl := h.len
  go_loopw [3, 4, 5, 6] (fun v3 v4 v5 _ wr => ∃ (k : Nat) (sa : Option Addr) (sc : Nat), k ≤ 40 ∧ v5 = .int .i64 ((k + 4 : Nat) : Int) ∧ v4 = .int .u8 (n8 (con ((k + 3) / 4))) ∧ v3 = .slice sa (16 + 4 * k) sc ∧ Own wr w.heap.size sa (16 + 4 * k) sc (words ky k) ∧ Ext w wr) (fun _ _ v5 _ _ => 44 - (intOf v5).toNat)
  case atStart => exact ⟨0, a2, c2, by omega, rfl, rfl, rfl, hO2, hx1.trans hx2⟩
  case round =>
    obtain ⟨k, sa, sc, hk, rfl, rfl, rfl, hO, hx⟩ := hrel
    by_cases hlt : k < 40
    · obtain ⟨g, vs, rfl, hg, hB, hvl, hnc, hcm, htk⟩ := Blk.of_own hO.2 (by omega)
      have hwl := words_length ky k hkl
      have HW := Lib.hid (word_eq (words ky k) (k + 4) (by omega) (by omega))
      have HS := Lib.hid (show words ky (k + 1) = words ky k ++ word (words ky k) (k + 4) from rfl)
      have HT := Lib.hid (drop4 (words ky k) (4 * k + 12) (by omega))
      generalize words ky k = ws at *
      have hR : Rd wr (some ⟨g, 4 * k + 12, none⟩) ([at' ws (4 * k + 12), at' ws (4 * k + 13), at' ws (4 * k + 14), at' ws (4 * k + 15)].map u8v) := by
        have h1 := ((hO.sl.drop (16 + 4 * k) (4 * k + 12) (by omega)).take 4 (by omega)).by'
        rw [HT.out] at h1
        unfold sAdr at h1
        rw [if_neg (by omega)] at h1
        simp only [Option.map_some, Nat.mul_one, addr_add, Nat.zero_add] at h1
        exact h1
      have b0 : (0 : Int) ≤ 4 * ((k : Int) + 4) - 4 := by omega
      have b1 : 4 * ((k : Int) + 4) - 4 ≤ 16 + 4 * (k : Int) := by omega
      have b2 : (4 * ((k : Int) + 4) - 4).toNat = 4 * k + 12 := by omega
      have b3 : sAdr (some ⟨g, 0, none⟩) sc (4 * k + 12) 1 = some ⟨g, 4 * k + 12, none⟩ := by
        unfold sAdr
        rw [if_neg (by omega)]
        simp [addr_add]
      have b4 : 4 ≤ (16 + 4 * k) - (4 * k + 12) := by omega
      have kk0 : (0 : Int) ≤ (k : Int) := by omega
      have kk1 : (k : Int) < 40 := by omega
      obtain ⟨t, ht⟩ : ∃ t, Hid (t = tmp4 ws (k + 4)) := ⟨_, Lib.hid rfl⟩
      have htl : t.length = 4 := by rw [ht.out]; exact tmp4_length _ _
      have hix := index4 t htl
      have hcon : ∃ x1, Hid (x1 = con ((k + 3) / 4)) := ⟨_, Lib.hid rfl⟩
      obtain ⟨x1, hx1'⟩ := hcon
      rw [← hx1'.out]
      have hbx := box_any
      unfold box at hbx
      have hxw := hx
      by_cases h0 : k % 4 = 0
      case' pos =>
        have hmod : ((k : Int) % 4 == 0) = true := by rw [beq_iff_eq]; omega
        have hx4 := Lib.hid (show con ((k + 1 + 3) / 4) = dbl x1 by
          rw [hx1'.out, show (k + 1 + 3) / 4 = (k + 3) / 4 + 1 by omega]; rfl)
        have ht2 := Lib.hid (show t = [sub (at' ws (4 * k + 13)) ^^^ x1, sub (at' ws (4 * k + 14)), sub (at' ws (4 * k + 15)), sub (at' ws (4 * k + 12))] by
          rw [ht.out, hx1'.out]; unfold tmp4; rw [if_pos (by omega)]
          rw [show 4 * (k + 4) - 4 = 4 * k + 12 by omega, show 4 * (k + 4) - 3 = 4 * k + 13 by omega, show 4 * (k + 4) - 2 = 4 * k + 14 by omega, show 4 * (k + 4) - 1 = 4 * k + 15 by omega, show (k + 4) / 4 - 1 = (k + 3) / 4 by omega])
        go_wp2_with (first
          | (refine wpList_load_arr (R99) rfl _ rfl (g) ((4 * k + 12)) rfl ([at' ws (4 * k + 12), at' ws (4 * k + 13), at' ws (4 * k + 14), at' ws (4 * k + 15)].map u8v) (hR) (rfl) ?_)
          | (refine wpList_alloc_store (R99) rfl rfl _ _ rfl rfl rfl rfl (by simp [Act.put]) ([at' ws (4 * k + 12), at' ws (4 * k + 13), at' ws (4 * k + 14), at' ws (4 * k + 15)].map u8v) rfl (by simp) (rfl) (one_u8 _) ?_; intro xb hBx _))
        have c0 := hBx.cell? 0 rfl
        have c1 := hBx.cell? 1 rfl
        have c2 := hBx.cell? 2 rfl
        have c3 := hBx.cell? 3 rfl
        refine wp_region_vague 15 [[], [0], [0, 1], [], [0, 1, 2, 3], [], [5], [5, 6], [], [8], [8, 9], [], [11], [11, 12], [0, 1, 2, 3, 4, 5, 6, 7, 8, 9, 10, 11, 12, 13], [0, 1, 2, 3, 4, 5, 6, 7, 8, 9, 10, 11, 12, 13, 14]] (by kernel_rfl) (by kernel_rfl) (by kernel_rfl) (by kernel_rfl) ?_; simp only [List.take_succ_cons, List.take_zero, List.drop_succ_cons, List.drop_zero, List.take_nil, List.drop_nil]
        (repeat (apply VD_der; (case h => (intro us w' hx hf; obtain ⟨x, rfl⟩ := hx.out; refine ⟨rfl, ?_⟩; simp [go_sem, execOp, *]; (try simp (disch := omega) only [Go.IntWalk.i64_in, Go.IntWalk.rem_in, Go.IntWalk.wrap64_in]); rfl)); (try simp only [Act.put, List.setIfInBounds_toArray, List.set_cons_succ, List.set_cons_zero])))
        (refine VD_nil ?_; intro us w' hx hf; obtain ⟨x, rfl⟩ := hx.out; (try simp only [Act.put, List.setIfInBounds_toArray, List.set_cons_succ, List.set_cons_zero, wpList_none]); (try simp only [List.mem_cons, List.not_mem_nil, or_false, forall_eq_or_imp, forall_eq, List.nil_append, List.cons_append, List.mem_append, false_or, true_and, and_true] at hf); (try simp only [Nat.reduceAdd, Nat.zero_add] at hf); (try simp only [Nat.reduceAdd, Nat.zero_add]))
        (refine wpList_store_arr (R99) rfl _ _ rfl (wr.heap.size) (0) rfl ([sub (at' ws (4 * k + 13)) ^^^ x1, sub (at' ws (4 * k + 14)), sub (at' ws (4 * k + 15)), sub (at' ws (4 * k + 12))].map u8v) rfl (99) _ (hBx.ext _) (rfl) (by simp) (by first | exact one_u8 _ | simp) ?_; intro ws2 hB2 hM2)
        have hB3 : Blk ws2 wr.heap.size 99 (t.map u8v) := by rw [ht2.out]; simpa using hB2
        have hxs : Ext wr ws2 := Below.trans (b := wr.ext xb) (Ext.of_ext _ _) (((Mut.of_ext (Ext.of_ext _ _)).trans hM2).below (Nat.le_refl _) (Ext.of_ext wr xb).size)
        go_wp2_with (first
          | (refine wpList_load_arr (R99) rfl _ rfl (wr.heap.size) (0) rfl (t.map u8v) ((hB3.ext _).rd) ((by simp [htl])) ?_)
          | (go_at_call 62; refine (dbl_any x1 _).mono ?_; rintro e w1 ⟨rfl, hxq⟩; obtain ⟨xq, rfl⟩ := hxq.out; clear hxq))
        have hxo := hxs.trans (Ext.of_ext ws2 xq)
      case' neg =>
        have hmod : ((k : Int) % 4 == 0) = false := by rw [beq_eq_false_iff_ne]; omega
        have hx4 := Lib.hid (show con ((k + 1 + 3) / 4) = x1 by
          rw [hx1'.out, show (k + 1 + 3) / 4 = (k + 3) / 4 by omega])
        have ht2 := Lib.hid (show t = [at' ws (4 * k + 12), at' ws (4 * k + 13), at' ws (4 * k + 14), at' ws (4 * k + 15)] by
          rw [ht.out]; unfold tmp4; rw [if_neg (by omega)]
          rw [show 4 * (k + 4) - 4 = 4 * k + 12 by omega, show 4 * (k + 4) - 3 = 4 * k + 13 by omega, show 4 * (k + 4) - 2 = 4 * k + 14 by omega, show 4 * (k + 4) - 1 = 4 * k + 15 by omega])
        go_wp2_with (first
          | (refine wpList_load_arr (R99) rfl _ rfl (wr.heap.size) (0) rfl (t.map u8v) ((by rw [ht2.out]; exact hBx.rd)) ((by simp [htl])) ?_)
          | (refine wpList_load_arr (R99) rfl _ rfl (g) ((4 * k + 12)) rfl ([at' ws (4 * k + 12), at' ws (4 * k + 13), at' ws (4 * k + 14), at' ws (4 * k + 15)].map u8v) (hR) (rfl) ?_)
          | (refine wpList_alloc_store (R99) rfl rfl _ _ rfl rfl rfl rfl (by simp [Act.put]) ([at' ws (4 * k + 12), at' ws (4 * k + 13), at' ws (4 * k + 14), at' ws (4 * k + 15)].map u8v) rfl (by simp) (rfl) (one_u8 _) ?_; intro x hBx _))
        have hxo := Ext.of_ext wr x
      all_goals
        clear hbx hmod
        have hF : ∀ r, r < 4 → Hid (wordF ws t (k + 4) r = at' ws (4 * k + r) ^^^ at' t r) := fun r hr => Lib.hid (by
          unfold wordF; rw [show 4 * (k + 4) - 16 + r = 4 * k + r by omega])
        obtain ⟨wq, rfl⟩ : ∃ wq : World, wq = wr := ⟨_, rfl⟩
        go_loopw [3, 47] (fun v3 v47 wi => ∃ (r : Nat) (sa2 : Option Addr) (sc2 : Nat), r ≤ 4 ∧ v47 = .int .i64 r ∧ v3 = .slice sa2 (16 + 4 * k + r) sc2 ∧ Own wi w.heap.size sa2 (16 + 4 * k + r) sc2 (ws ++ (List.range r).map (wordF ws t (k + 4))) ∧ Ext w wi) (fun _ v47 _ => 4 - (intOf v47).toNat)
        case atStart => exact ⟨0, some ⟨g, 0, none⟩, sc, by omega, rfl, rfl, by simpa using hO.ext hxo, hxw.trans hxo⟩
        case round =>
          obtain ⟨r, sa2, sc2, hr, rfl, rfl, hOi, hxi⟩ := hrel
          by_cases hr4 : r < 4
          · have hFr := hF r hr4
            have hixr := hix r hr4
            obtain ⟨bb, oo, rfl, hbb, hcell⟩ := hOi.sl.at (4 * k + r) (by omega)
            have hval : (ws ++ (List.range r).map (wordF ws t (k + 4)))[4 * k + r]'(by simp; omega) = at' ws (4 * k + r) := by
              rw [List.getElem_append_left (by omega), at_get _ _ (by omega)]
            rw [hval] at hcell
            have j0 : (0 : Int) ≤ 4 * ((k : Int) + 4) - 16 + (r : Int) := by omega
            have j1 : 4 * ((k : Int) + 4) - 16 + (r : Int) < 16 + 4 * (k : Int) + (r : Int) := by omega
            have j2 : (4 * ((k : Int) + 4) - 16 + (r : Int)).toNat = 4 * k + r := by omega
            have hr0 : (r : Int) < 4 := by omega
            clear hval hix hF
            go_wp2_with (at_builtin; refine wpList_append_by U rfl _ _ rfl w.heap.size (some ⟨bb, oo, none⟩) _ sc2 _ rfl _ 1 1 _ rfl (hOi.ext (by repeat (first | (with_reducible first | exact Ext.refl _ | assumption | apply Ext.alloc | apply Ext.ext | apply Ext.drew | refine Ext.setCell ?_ ?_ _) | (focus (simp [go_sem]; done))))) (sl_new1 _ _ _) (by omega) (by simp; have := hxi.size; omega) ?_; intro sa3 sc3 w3 hO3 hg3 hB3')
            go_roundw
            case rel =>
              refine ⟨r + 1, sa3, sc3, by omega, by go_num, rfl, ?_, Below.trans (b := wr.alloc _) (by repeat (first | (with_reducible first | exact Ext.refl _ | assumption | apply Ext.alloc | apply Ext.ext | apply Ext.drew | refine Ext.setCell ?_ ?_ _) | (focus (simp [go_sem]; done)))) hB3'⟩
              rw [List.range_succ, List.map_append, ← List.append_assoc, List.map_cons, List.map_nil, hFr.out]
              exact hO3
            case measure => simp [intOf]; omega
          · obtain rfl : r = 4 := by omega
            clear hix hF
            go_wp2
            go_roundw
            case rel =>
              refine ⟨k + 1, sa2, sc2, by omega, by go_num, by rw [hx4.out], rfl, ?_, hxi⟩
              rw [HS.out, HW.out, ← ht.out]
              exact hOi
            case measure => simp [intOf]; omega
    · obtain rfl : k = 40 := by omega
      simp only [Nat.reduceMul, Nat.reduceAdd, Nat.reduceDiv, Int.cast_ofNat_Int]
      obtain ⟨g, vs, rfl, hg, hB, hvl, hnc, hcm, htk⟩ := Blk.of_own hO.2 (by omega)
      have hwl : (words ky 40).length = 176 := words_length ky 40 hkl
      have hO : Own wr w.heap.size (some ⟨g, 0, none⟩) 176 sc (words ky 40) := hO
      have hnc : 176 ≤ sc := hnc
      clear htk
      have HE := Lib.hid (show expand ky = words ky 40 from rfl)
      generalize words ky 40 = ks at *
      have hz : Blk (wr.alloc (.cells Try.zeroCells80 80)) wr.heap.size 80 ((fillTo ks 176 0).map u8v) := by
        have := Blk.new wr Try.zeroCells80 80
        rw [fillTo_zero]
        have e : Try.zeroCells80.toList = (List.replicate 176 (0 : UInt8)).map u8v := by kernel_rfl
        rwa [e] at this
      obtain ⟨wq, rfl⟩ : ∃ wq : World, wq = wr := ⟨_, rfl⟩
      go_wp2
      go_loopw [67] (fun v67 wi => ∃ r : Nat, r ≤ 11 ∧ v67 = .int .i64 r ∧ Blk wi wq.heap.size 80 ((fillTo ks 176 (16 * r)).map u8v) ∧ Ext wq wi) (fun v67 _ => 11 - (intOf v67).toNat)
      case atStart => exact ⟨0, by omega, rfl, hz, Ext.of_alloc _ _⟩
      case round =>
        obtain ⟨r, hr, rfl, hBr, hxr⟩ := hrel
        by_cases hr4 : r < 11
        · have hR := (((hO.ext hxr).sl.drop 176 (16 * r) (by omega)).take 16 (by omega)).by'
          have b3 : sAdr (some ⟨g, 0, none⟩) 176 (16 * r) 1 = some ⟨g, 16 * r, none⟩ := by
            unfold sAdr
            rw [if_neg (by omega)]
            simp [addr_add]
          rw [b3] at hR
          have b4 : sAdr (some ⟨g, 0, none⟩) sc (16 * r) 1 = some ⟨g, 16 * r, none⟩ := by
            unfold sAdr
            rw [if_neg (by omega)]
            simp [addr_add]
          have b6 : ¬ sc = 16 * r := by omega
          have b5 : 16 ≤ 176 - 16 * r := by omega
          have r0 : (0 : Int) ≤ (r : Int) := by omega
          have r1 : (r : Int) < 11 := by omega
          have r2 : (16 * (r : Int)).toNat = 16 * r := by omega
          have r3 : (16 * (r : Int)) ≤ 176 := by omega
          have hal : Try.prog.arrayLen 78 = 11 := by kernel_rfl
          have hcl : ((ks.drop (16 * r)).take 16).length = 16 := by simp; omega
          have hR2 : Rd wr (some ⟨g, 16 * r, none⟩) (((ks.drop (16 * r)).take 16).map u8v) := hR
          have HS := Lib.hid (fillTo_step ks 176 (16 * r) 16 hwl (by omega))
          have HL := Lib.hid (fillTo_length ks 176 (16 * r) hwl (by omega))
          obtain ⟨bs, hbs⟩ : ∃ bs, bs = (ks.drop (16 * r)).take 16 := ⟨_, rfl⟩
          rw [← hbs] at hR2 hcl HS
          clear hbs hR
          clear hB
          obtain ⟨fl, hfl⟩ : ∃ fl, Hid (fl = fillTo ks 176 (16 * r)) := ⟨_, Lib.hid rfl⟩
          rw [← hfl.out] at hBr HS HL
          go_wp2
          refine wp_region_vague 11 [[], [], [], [], [3], [2, 3, 4], [2, 3, 4, 5], [2, 3, 4, 5, 6], [0], [0, 8], [0, 1, 2, 3, 4, 5, 6, 7, 8, 9], [0, 1, 2, 3, 4, 5, 6, 7, 8, 9, 10]] (by kernel_rfl) (by kernel_rfl) (by kernel_rfl) (by kernel_rfl) ?_; simp only [List.take_succ_cons, List.take_zero, List.drop_succ_cons, List.drop_zero, List.take_nil, List.drop_nil]
          (repeat (apply VD_der; (case h => (intro us w' hx hf; obtain ⟨x, rfl⟩ := hx.out; refine ⟨rfl, ?_⟩; simp [go_sem, execOp, *]; (try simp (disch := omega) only [Go.IntWalk.i64_in, Go.IntWalk.rem_in, Go.IntWalk.wrap64_in]); rfl)); (try simp only [Act.put, List.setIfInBounds_toArray, List.set_cons_succ, List.set_cons_zero])))
          (refine VD_load_arr (R60) _ rfl (fun _ => rfl) (g) (16 * r) (fun _ => by simp [go_sem]) (bs.map u8v) (hR2) ((by simpa using hcl)) ?_)
          (repeat (apply VD_der; (case h => (intro us w' hx hf; obtain ⟨x, rfl⟩ := hx.out; refine ⟨rfl, ?_⟩; simp [go_sem, execOp, *]; (try simp (disch := omega) only [Go.IntWalk.i64_in, Go.IntWalk.rem_in, Go.IntWalk.wrap64_in]); rfl)); (try simp only [Act.put, List.setIfInBounds_toArray, List.set_cons_succ, List.set_cons_zero])))
          (refine VD_nil ?_; intro us w' hx hf; obtain ⟨x, rfl⟩ := hx.out; (try simp only [Act.put, List.setIfInBounds_toArray, List.set_cons_succ, List.set_cons_zero, wpList_none]); (try simp only [List.mem_cons, List.not_mem_nil, or_false, forall_eq_or_imp, forall_eq, List.nil_append, List.cons_append, List.mem_append, false_or, true_and, and_true] at hf); (try simp only [Nat.reduceAdd, Nat.zero_add] at hf); (try simp only [Nat.reduceAdd, Nat.zero_add]))
          (refine wpList_store_arr R60 rfl _ _ rfl (wq.heap.size) (r * 16) rfl (bs.map u8v) rfl _ _ (hBr.ext _) (by simpa using hcl) (by rw [List.length_map, HL.out]; omega) (one_u8 _) ?_; intro ws2 hB2 hM2)
          go_wp2
          go_roundw
          case rel =>
            refine ⟨r + 1, by omega, by go_num, ?_, Below.trans (b := wr.ext x) (hxr.trans (Ext.of_ext _ _)) (hM2.below (Nat.le_refl _) ((hxr.trans (Ext.of_ext wr x)).size))⟩
            rw [show 16 * (r + 1) = 16 * r + 16 by omega, ← HS.out, show 16 * r = r * 16 by omega]
            exact hB2
          case measure => simp [intOf]; omega
        · obtain rfl : r = 11 := by omega
          go_wp2
          go_ret
          rw [fillTo_all _ _ hwl, ← HE.out] at hBr
          exact ⟨_, rfl, hx.size, hBr, hx.trans hxr⟩
end Go.Proofs.Ythooaeeajeajnaa
