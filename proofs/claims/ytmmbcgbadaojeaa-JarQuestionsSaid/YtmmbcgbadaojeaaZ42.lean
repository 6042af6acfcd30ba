/- Lemmas of this claim, several texts joined. -/
import Derived.Test.YtmmbcgbadaojeaaZ31
import Derived.Test.YtmmbcgbadaojeaaZ39
set_option linter.unusedVariables false
set_option linter.unusedSimpArgs false
/- Layer 22: what a question's fields read as. No program. -/
namespace Go.Jar
open Go.Sha Go.Pkt Go.Oct Go.Aes
theorem padQ {u c : List UInt8} {k : Nat} (hu : u.length = 32) (hc : c.length = 104) : (plainQ u c k).map padF = plainQ u c k := by
  have h : ∀ f ∈ plainQ u c k, padF f = f := fun f hf => by
    unfold padF
    rcases plainQ_in hf with h | h | h <;> rw [h]
    · simp only; rw [hu, show szN 32 - 4 - 32 = 0 from by decide]; simp
    · simp only; rw [hc, show szN 104 - 4 - 104 = 0 from by decide]; simp
    · simp only; rw [List.length_replicate, show szN 104 - 4 - 104 = 0 from by decide]; simp
  calc (plainQ u c k).map padF = (plainQ u c k).map id := List.map_congr_left h
    _ = _ := List.map_id _
theorem plainQ_at {u c : List UInt8} {k i : Nat} (hi : i < k) : (plainQ u c k)[2 + i]? = some (772, List.replicate 104 0) := by
  unfold plainQ
  rw [List.getElem?_append_right (by simp), List.getElem?_replicate]
  simp
  omega
theorem plainQ_0 (u c : List UInt8) (k : Nat) : (plainQ u c k)[0]? = some (260, u) := rfl
theorem plainQ_1 (u c : List UInt8) (k : Nat) : (plainQ u c k)[1]? = some (516, c) := rfl
end Go.Jar

/- Layer 22: the law JarQuestions. -/
namespace Go.Proofs.Ytmmbcgbadaojeaa
open Go.RowKit Go.Sec Go.Oct Go.Jar Go.Pkt Go.Sha BigFrame

theorem u64_ofJ {z : Int} (h : (Lit.int .u64 z).wf = true) : ∃ t : UInt64, z = n64 t := by
  have : 0 ≤ z ∧ z ≤ 18446744073709551615 := by simpa [Lit.wf, IntKind.min, IntKind.max, IntKind.signed, IntKind.bits] using h
  exact ⟨UInt64.ofNat z.toNat, by unfold n64; rw [UInt64.toNat_ofNat']; omega⟩
set_option maxRecDepth 100000 in
theorem raskJ_any (t : UInt64) (w : World) :
    Calls Try.prog 26 #[.int .u64 (n64 t)] w fun e w' => e = .returned (.agg #[.int .i64 0, .int .i64 4, .int .i64 3, .int .i64 0, .int .i64 6, .int .i64 0, .int .u32 0, .int .u32 0, .int .u32 0, .int .u64 0, .int .u64 0, .int .u64 0, .int .u64 (n64 t)]) ∧ Ext w w' := by
  go_enter Try.func26, Try.ntmps26
  go_wp2
  refine bodyPost_ret (results_arr Try.results26 (RH13) _ _ (w.heap.size) (0) ([.int .i64 0, .int .i64 4, .int .i64 3, .int .i64 0, .int .i64 6, .int .i64 0, .int .u32 0, .int .u32 0, .int .u32 0, .int .u64 0, .int .u64 0, .int .u64 0, .int .u64 (n64 t)]) rfl ((Blk.new _ _ _).rd) (rfl)) rfl ?_
  exact ⟨rfl, (by repeat (first | (with_reducible first | exact Ext.refl _ | assumption | apply Ext.alloc | apply Ext.ext | apply Ext.drew | refine Ext.setCell ?_ ?_ _) | (focus (simp [go_sem]; done))))⟩
set_option maxRecDepth 100000 in
set_option maxHeartbeats 4000000 in
theorem jarQuestions_walk (seed n tr uq no : Int) (w : World) (htr : (Lit.int .u64 tr).wf = true) :
    Calls Try.prog 10 #[.int .i64 seed, .int .i64 n, .int .u64 tr, .int .i64 uq, .int .i64 no] w fun e w' => e = .returned (.bool true) ∧ Ext w w' := by
  obtain ⟨t, rfl⟩ := u64_ofJ htr
  clear htr
  obtain ⟨s, hs, es⟩ := nmod seed 1000 (by omega)
  have es : seed % 1000 = (s : Int) := es
  obtain ⟨m, hm, em⟩ := nmod n 8 (by omega)
  have em : n % 8 = (m : Int) := em
  obtain ⟨a, ha, ea⟩ := nmod uq 100000 (by omega)
  have ea : uq % 100000 = (a : Int) := ea
  obtain ⟨b, hb, eb⟩ := nmod no 100000 (by omega)
  have eb : no % 100000 = (b : Int) := eb
  have hw1 := fun W => within_any seed 1000 W (by omega) (by omega)
  have hw2 := fun W => within_any n 8 W (by omega) (by omega)
  have hw3 := fun W => within_any uq 100000 W (by omega) (by omega)
  have hw4 := fun W => within_any no 100000 W (by omega) (by omega)
  rw [es] at hw1
  rw [em] at hw2
  rw [ea] at hw3
  rw [eb] at hw4
  clear es em ea eb
  have hwj : ∀ W, Calls Try.prog 12 #[.int .i64 (s : Int), .int .i64 (1 + (m : Int))] W (WJarO s (m + 1) W) := fun W => wjar_any s (1 + (m : Int)) (m + 1) rfl W (by omega) (by omega)
  have hu := fun W => wbytes_any a 32 rfl (show (32 : Int) = ((32 : Nat) : Int) from rfl) W (by omega) (by omega)
  have hn := fun W => wbytes_any b 16 rfl (show (16 : Int) = ((16 : Nat) : Int) from rfl) W (by omega) (by omega)
  have lu := wbytes_length a 32
  have ln := wbytes_length b 16
  obtain ⟨hq1, hq2, hq3⟩ := quesJ_W (s := s) (k := m + 1) (by omega) (by omega) (by omega) t lu ln
  rw [padQ lu (ck0_length s)] at hq3
  have hv1 := jar1_valid (s := s) (k := m + 1) (by omega) (by omega) (by omega)
  have l3 := jar1_ck s (m + 1)
  rw [Nat.add_sub_cancel] at l3
  have hqc : ∀ (a1 a2 b3 au an : Option Addr) (d1 d2 d3 cu cn : Nat) (W : World), Sl W a1 32 (upW s) → Sl W a2 32 (dnW s) → Bsc W b3 (m + 1) (ckW s (m + 1)) → m + 1 ≤ d3 → Sl W au 32 (wbytes a 32) → 32 ≤ cu → Sl W an 16 (wbytes b 16) → 16 ≤ cn →
      Calls Try.prog 42 #[.agg #[.slice a1 32 d1, .slice a2 32 d2, .slice b3 (m + 1) d3, .slice none 0 0, .int .i64 1, .int .i64 0], .int .u64 (n64 t), .slice au 32 cu, .slice an 16 cn] W fun e w'' => ∃ v, e = .returned v ∧ ∃ p : Par, v = QuesV 1 1 32 32 m 104 (quesX s (m + 1) t (wbytes a 32) (wbytes b 16)).length p ∧ Ext W w'' ∧ QuesP (jar1 s (m + 1), quesX s (m + 1) t (wbytes a 32) (wbytes b 16)) 32 32 m 104 (quesX s (m + 1) t (wbytes a 32) (wbytes b 16)).length p w'' := fun a1 a2 b3 au an d1 d2 d3 cu cn W h1 h2 h3 h4 h5 h6 h7 h8 => by
    have := jques_any a1 a2 b3 none au an 32 d1 32 d2 (m + 1) d3 0 0 32 cu 16 cn (jarW s (m + 1)) t (wbytes a 32) (wbytes b 16) W h1 (by omega) h2 (by omega) h3 h4 (by omega) (fun y hy => by have := ckW_104 hy; omega) (Sl.nil _ _) (by omega) h5 h6 h7 h8
    rw [hq1] at this
    exact vag_ques this (upW_length s) (dnW_length s) l3 (ck0_length s) rfl rfl rfl
  have hXl : (quesX s (m + 1) t (wbytes a 32) (wbytes b 16)).length ≤ 100000 := by rw [hq2]; omega
  have hop : ∀ (ak ab : Option Addr) (ck cb : Nat) (W : World), Sl W ak 32 (upW s) → 32 ≤ ck → Sl W ab (quesX s (m + 1) t (wbytes a 32) (wbytes b 16)).length (quesX s (m + 1) t (wbytes a 32) (wbytes b 16)) → (quesX s (m + 1) t (wbytes a 32) (wbytes b 16)).length ≤ cb →
      Calls Try.prog 30 #[.slice ak 32 ck, .slice ab (quesX s (m + 1) t (wbytes a 32) (wbytes b 16)).length cb] W (PktE (⟨askH t, plainQ (wbytes a 32) (ck0 s) (7 - m), [], true⟩, 0) W) := fun ak ab ck cb W h1 h2 h3 h4 => by
    have := popenp_any ak ab 32 ck _ cb (upW s) _ W h1 h2 h3 h4 (by omega)
    rw [hq3, show 8 - (m + 1) = 7 - m by omega] at this
    exact this
  have hwt : ∀ (b1 b2 b3 b4 : Option Addr) (d1 d2 d3 d4 : Nat) (W : World), Sl W b1 32 (jar1 s (m + 1)).up → Sl W b2 32 (jar1 s (m + 1)).dn → Bsc W b3 m (jar1 s (m + 1)).ck → m ≤ d3 → Sl W b4 104 (jar1 s (m + 1)).last → Calls Try.prog 43 #[.agg #[.slice b1 32 d1, .slice b2 32 d2, .slice b3 m d3, .slice b4 104 d4, .int .i64 1, .int .i64 1]] W fun e w' => e = .returned (.tuple #[.int .i64 ((7 - m + 1 : Nat) : Int), .int .i64 0]) ∧ Ext W w' := fun b1 b2 b3 b4 d1 d2 d3 d4 W H1 H2 H3 H4 H5 => by
    have := jwant_any b1 b2 b3 b4 32 d1 32 d2 m d3 104 d4 (jar1 s (m + 1)) W H1 H2 H3 H4 (by omega) H5
    rw [show wantJ (jar1 s (m + 1)) = (((7 - m + 1 : Nat) : Int), 0) by unfold wantJ; rw [if_pos hv1, l3]; congr 1; omega] at this
    exact this
  have hask : ∀ W, Calls Try.prog 26 #[.int .u64 (n64 t)] W fun e w' => e = .returned (.agg #[.int .i64 (askH t).leap, .int .i64 (askH t).ver, .int .i64 (askH t).mode, .int .i64 (askH t).strat, .int .i64 (askH t).poll, .int .i64 (askH t).prec, .int .u32 (n32 (askH t).rd), .int .u32 (n32 (askH t).rp), .int .u32 (n32 (askH t).id), .int .u64 (n64 (askH t).ref), .int .u64 (n64 (askH t).org), .int .u64 (n64 (askH t).rcv), .int .u64 (n64 (askH t).tx)]) ∧ Ext W w' := fun W => raskJ_any t W
  have hQl := plainQ_length (wbytes a 32) (ck0 s) (7 - m)
  have hQ0 := plainQ_0 (wbytes a 32) (ck0 s) (7 - m)
  have hQ1 := plainQ_1 (wbytes a 32) (ck0 s) (7 - m)
  have hQi : ∀ i, i < 7 - m → (plainQ (wbytes a 32) (ck0 s) (7 - m))[2 + i]? = some (772, List.replicate 104 0) := fun i hi => plainQ_at hi
  have hck0 : (ckW s (m + 1))[0]? = some (ck0 s) := by rw [ckW_cons]; rfl
  have hlast : (jar1 s (m + 1)).last = ck0 s := rfl
  have lc := ck0_length s
  clear hq1 hq2 hq3 hv1 l3
  obtain ⟨K, hK⟩ : ∃ K, K = 7 - m := ⟨_, rfl⟩
  rw [← hK] at hop hwt hQl hQ0 hQ1 hQi
  have hK7 : K ≤ 7 := by omega
  clear hK
  obtain ⟨wq, hwq⟩ : ∃ x, x = K + 1 := ⟨_, rfl⟩
  rw [← hwq] at hwt
  replace hwq := Lib.hid hwq
  generalize quesX s (m + 1) t (wbytes a 32) (wbytes b 16) = X at *
  generalize plainQ (wbytes a 32) (ck0 s) K = Q at *
  generalize hJ1 : jar1 s (m + 1) = J1 at *
  clear hJ1
  generalize wbytes a 32 = UB at *
  generalize wbytes b 16 = N at *
  have hk := fun W => known22_any W
  have hXl := Lib.hid hXl
  have hlast := Lib.hid hlast
  go_enter Try.func10, Try.ntmps10
  go_wp2_with fail
  (with_reducible refine (hw1 _).mono ?_); rintro e w1 ⟨rfl, hx1⟩
  go_wp2_with fail
  (with_reducible refine (hw2 _).mono ?_); rintro e w2 ⟨rfl, hx2⟩
  go_wp2_with fail
  (with_reducible refine (hwj _).mono ?_); rintro e w3 ⟨a1, d1, a2, d2, b3, d3, rfl, h1, k1, h2, k2, h3, k3, hx3⟩
  have hE3 := hx1.trans (hx2.trans hx3)
  clear hw1 hw2 hwj hx1 hx2 hx3
  go_wp2_with (first
    | (refine wpList_alloc_store (RJ6) rfl rfl _ _ rfl rfl rfl rfl (by simp [Act.put]) ([.slice a1 32 d1, .slice a2 32 d2, .slice b3 (m + 1) d3, .slice none 0 0, .int .i64 1, .int .i64 0]) rfl (by simp) (rfl) ((by simp; repeat' (first | rfl | constructor))) ?_; intro x hz _)
    | fail)
  have hxx : Ext w3 (w3.ext x) := Ext.of_ext _ _
  have hE4 := hE3.trans hxx
  have h1 := h1.ext hxx
  have h2 := h2.ext hxx
  have h3 := h3.ext hxx
  clear hE3 hxx
  obtain ⟨g1, hg1⟩ : ∃ g, g = w3.heap.size := ⟨_, rfl⟩
  rw [← hg1] at hz ⊢
  clear hg1
  generalize w3.ext x = W4 at *
  (with_reducible refine (hw3 _).mono ?_); rintro e w5 ⟨rfl, hx5⟩
  go_wp2_with fail
  (with_reducible refine (hu _).mono ?_); rintro e w6 ⟨au, cu, rfl, hOu, hx6⟩
  have hx56 := hx5.trans hx6
  have hE6 := hE4.trans hx56
  have h1 := h1.ext hx56
  have h2 := h2.ext hx56
  have h3 := h3.ext hx56
  have hz := hz.extB hx56
  have hU := hOu.sl
  have hUc := hOu.le.1
  clear hE4 hx5 hx6 hx56 hw3 hu hOu
  go_wp2_with fail
  refine R2.wp_region_vagueZ 12 [[], [], [], [], [3], [3, 4], [0, 1, 2, 3, 4, 5], [0, 1, 2, 3, 4, 5, 6], [0, 1, 2, 3, 4, 5, 6, 7], [0, 1, 2, 3, 4, 5, 6, 7], [0, 1, 2, 3, 4, 5, 6, 7], [], [0, 1, 2, 3, 4, 5, 6, 7, 8, 11], [0, 1, 2, 3, 4, 5, 6, 7, 8, 9, 11, 12], [0, 1, 2, 3, 4, 5, 6, 7, 8, 9, 10, 11, 12, 13]] [9, 10] (by intro c a d v w h; cases d <;> exact h) (by kernel_rfl) (by kernel_rfl) (by kernel_rfl) (by kernel_rfl) (by kernel_rfl) ?_; simp only [List.take_succ_cons, List.take_zero, List.drop_succ_cons, List.drop_zero, List.take_nil, List.drop_nil]
  (refine R2.VD_load_arr (RJ6) _ rfl (fun _ => rfl) (g1) (0) (fun _ => by simp [go_sem]) ([.slice a1 32 d1, .slice a2 32 d2, .slice b3 (m + 1) d3, .slice none 0 0, .int .i64 1, .int .i64 0]) (hz.rd) (rfl) ?_)
  (repeat (apply R2.VD_der; (case h => (intro us w' hx hf; obtain ⟨x, rfl⟩ := hx.out; refine ⟨rfl, ?_⟩; simp [go_sem, execOp, *]; (try simp (disch := omega) only [Go.IntWalk.i64_in, Go.IntWalk.rem_in, Go.IntWalk.wrap64_in]); rfl)); (try simp only [Act.put, List.setIfInBounds_toArray, List.set_cons_succ, List.set_cons_zero])))
  (refine R2.VD_vag (fun _ => .int .i64 (b : Int)) (fun _ _ => True) (fun _ _ _ _ _ => trivial) (fun us w' hx hf => ⟨rfl, ?_⟩) ?_; (unfold gives; simp [go_sem, execOp]; refine (hw4 _).mono ?_; rintro e w1 ⟨rfl, hx1⟩; first | exact ⟨rfl, hx1⟩ | simpa using hx1))
  (refine R2.VD_vag (fun p => .slice (p 0).1 (16) (p 0).2) (fun p w'' => Own w'' 0 (p 0).1 (16) (p 0).2 (N)) (fun p w w' h hx => h.ext hx) (fun us w' hx hf => ⟨rfl, ?_⟩) ?_; (unfold gives; simp [go_sem, execOp]; exact vag_fresh (Nat.zero_le _) (hn _)))
  (refine R2.VD_vag (QuesV 1 1 32 32 m 104 X.length) (QuesP (J1, X) 32 32 m 104 X.length) (fun p w w' h hx => h.ext hx) (fun us w' hx hf => ⟨rfl, ?_⟩) ?_; (unfold gives; simp [go_sem, execOp]; exact hqc _ _ _ _ _ _ _ _ _ _ _ (h1.ext hx) (h2.ext hx) (h3.ext hx) k3 (hU.ext hx) hUc (Own.sl (hf _ (List.mem_append_right _ (List.mem_singleton_self _)) rfl)) (Own.le (hf _ (List.mem_append_right _ (List.mem_singleton_self _)) rfl)).1))
  (repeat (apply R2.VD_der; (case h => (intro us w' hx hf; obtain ⟨x, rfl⟩ := hx.out; refine ⟨rfl, ?_⟩; simp [go_sem, execOp, *]; (try simp (disch := omega) only [Go.IntWalk.i64_in, Go.IntWalk.rem_in, Go.IntWalk.wrap64_in]); rfl)); (try simp only [Act.put, List.setIfInBounds_toArray, List.set_cons_succ, List.set_cons_zero])))
  (refine R2.VD_alloc _ ([.slice none 0 0, .slice none 0 0, .slice none 0 0, .slice none 0 0, .int .i64 0, .int .i64 0]) Try.zeroValue28 rfl rfl rfl ?_)
  (refine R2.VD_nil ?_; intro us w' hx hf hd; obtain ⟨x, rfl⟩ := hx.out; (try simp only [Act.put, List.setIfInBounds_toArray, List.set_cons_succ, List.set_cons_zero, wpList_none]); (try simp only [List.mem_cons, List.not_mem_nil, or_false, forall_eq_or_imp, forall_eq, List.nil_append, List.cons_append, List.mem_append, false_or, true_and, and_true] at hf); (try simp only [Nat.reduceAdd, Nat.zero_add] at hf); (try simp only [Nat.reduceAdd, Nat.zero_add]))
  obtain ⟨-, hP, g2, eg, hgW, hBg⟩ := hf
  simp only [List.getElem_toArray, List.getElem_cons_succ, List.getElem_cons_zero]
  rw [eg]
  clear hd eg hqc hn hw4
  generalize us 6 = p at *
  have hxx : Ext w6 (w6.ext x) := Ext.of_ext _ _
  clear hx
  generalize w6.ext x = W8 at *
  haveI := hBg.blt
  have hlt1 := hz.lt
  go_wp2_with (first
    | ((refine wpList_store_arr (RJ6) rfl _ _ rfl (g2) (0) rfl ([.slice (p 0).1 32 (p 0).2, .slice (p 1).1 32 (p 1).2, .slice (p 2).1 m (p 2).2, .slice (p 3).1 104 (p 3).2, .int .i64 1, .int .i64 1]) rfl (28) _ (hBg) (rfl) (by simp) ((by simp; repeat' (first | rfl | constructor))) ?_; intro V hV hMV); have hzV := Blk.turn hMV (hz.extB hxx) (by omega); haveI := hzV.blt; have f0 := hzV.cell? 0 rfl)
    | fail)
  have hB2 : Blk V g2 28 [.slice (p 0).1 32 (p 0).2, .slice (p 1).1 32 (p 1).2, .slice (p 2).1 m (p 2).2, .slice (p 3).1 104 (p 3).2, .int .i64 1, .int .i64 1] := hV
  obtain ⟨p1, q1, p2, q2, p3, q3, pt, p4, q4, p5, q5⟩ := hP
  have p1 := p1.mut hBg (by simp) hMV
  have p2 := p2.mut hBg (by simp) hMV
  have p3 := p3.mutNe (pt.ne hBg (by decide)) hBg (by simp) hMV
  have p4 := p4.mut hBg (by simp) hMV
  have p5 := p5.mut hBg (by simp) hMV
  have hEV : Ext w6 V := Below.trans hxx (hMV.below hgW hxx.size)
  have hE8 := hE6.trans hEV
  have h1 := h1.ext hEV
  have h3 := h3.ext hEV
  have hU := hU.ext hEV
  clear hE6 hEV hxx hgW hBg hMV hV pt hz h2 f0
  (with_reducible refine (hop _ _ _ _ _ h1 k1 p5 q5).mono ?_)
  rintro e w9 ⟨a4, n4, c4, a5, n5, c5, rfl, hI4, hc4, hI5, hc5, hx9⟩
  have e4 := hI4.len
  have e5 := hI5.len
  dsimp only at e4 e5 hI4 hI5 ⊢
  have e4 : n4 = 2 + K := by omega
  obtain rfl : n5 = 0 := by simpa using e5.symm
  have hE9 := hE8.trans hx9
  have hB1 := hzV.extB hx9
  have hB2 := hB2.extB hx9
  have h3 := h3.ext hx9
  have hU := hU.ext hx9
  have p1 := p1.ext hx9
  have p2 := p2.ext hx9
  have p3 := p3.ext hx9
  have p4 := p4.ext hx9
  replace e4 := Lib.hid e4
  clear hE8 hx9 hzV hop p5 q5 hI5 hc5 e5 h1
  go_wp2_with (first
    | (refine wpList_alloc_store (RP16) rfl rfl _ _ rfl rfl rfl rfl (by simp [Act.put]) ([.int .i64 (askH t).leap, .int .i64 (askH t).ver, .int .i64 (askH t).mode, .int .i64 (askH t).strat, .int .i64 (askH t).poll, .int .i64 (askH t).prec, .int .u32 (n32 (askH t).rd), .int .u32 (n32 (askH t).rp), .int .u32 (n32 (askH t).id), .int .u64 (n64 (askH t).ref), .int .u64 (n64 (askH t).org), .int .u64 (n64 (askH t).rcv), .int .u64 (n64 (askH t).tx), .slice a4 n4 c4, .slice a5 0 c5, .bool true]) rfl (by simp) (rfl) ((by simp; repeat' (first | rfl | constructor))) ?_; intro x9 hz _)
    | (refine wpList_load_arr (RJ6) rfl _ rfl (g2) (0) rfl ([.slice (p 0).1 32 (p 0).2, .slice (p 1).1 32 (p 1).2, .slice (p 2).1 m (p 2).2, .slice (p 3).1 104 (p 3).2, .int .i64 1, .int .i64 1]) ((hB2.extB (by repeat (first | (with_reducible first | exact Ext.refl _ | assumption | apply Ext.alloc | apply Ext.ext | apply Ext.drew | refine Ext.setCell ?_ ?_ _) | (focus (simp [go_sem]; done))))).rd) (rfl) ?_)
    | fail)
  have hxx : Ext w9 (w9.ext x9) := Ext.of_ext _ _
  (with_reducible refine (hwt _ _ _ _ _ _ _ _ _ (p1.ext hxx) (p2.ext hxx) (p3.ext hxx) q3 (p4.ext hxx)).mono ?_)
  rintro e w11 ⟨rfl, hx11⟩
  have hx1' := hxx.trans hx11
  have hE11 := hE9.trans hx1'
  have hB1 := hB1.extB hx1'
  have hB2 := hB2.extB hx1'
  have hB3 := hz.extB hx11
  have h3 := h3.ext hx1'
  have hU := hU.ext hx1'
  have p4 := p4.ext hx1'
  have hI4 := hI4.ext hx1'
  clear hE9 hxx hx11 hx1' hz p1 p2 p3 hwt q1 q2 q3
  obtain ⟨g3, hg3⟩ : ∃ g, g = w9.heap.size := ⟨_, rfl⟩
  rw [← hg3] at hB3 ⊢
  clear hg3
  haveI := hB1.blt
  haveI := hB2.blt
  haveI := hB3.blt
  have u2 := hB1.cell? 2 rfl
  have v2 := hB2.cell? 2 rfl
  have v3 := hB2.cell? 3 rfl
  have x13 := hB3.cell? 13 rfl
  have x14 := hB3.cell? 14 rfl
  have hHd : Rd w11 (some ⟨g3, 0, none⟩) [.int .i64 (askH t).leap, .int .i64 (askH t).ver, .int .i64 (askH t).mode, .int .i64 (askH t).strat, .int .i64 (askH t).poll, .int .i64 (askH t).prec, .int .u32 (n32 (askH t).rd), .int .u32 (n32 (askH t).rp), .int .u32 (n32 (askH t).id), .int .u64 (n64 (askH t).ref), .int .u64 (n64 (askH t).org), .int .u64 (n64 (askH t).rcv), .int .u64 (n64 (askH t).tx)] := Rd.left (vs := [.int .i64 (askH t).leap, .int .i64 (askH t).ver, .int .i64 (askH t).mode, .int .i64 (askH t).strat, .int .i64 (askH t).poll, .int .i64 (askH t).prec, .int .u32 (n32 (askH t).rd), .int .u32 (n32 (askH t).rp), .int .u32 (n32 (askH t).id), .int .u64 (n64 (askH t).ref), .int .u64 (n64 (askH t).org), .int .u64 (n64 (askH t).rcv), .int .u64 (n64 (askH t).tx)]) (us := [.slice a4 n4 c4, .slice a5 0 c5, .bool true]) hB3.rd
  have hwb : (wq : Int) ≤ 8 := by have := hwq.out; omega
  have hT1 : ((n4 : Int) != 1 + (wq : Int)) = false := by rw [bne_eq_false_iff_eq]; have := e4.out; have := hwq.out; omega
  go_wp2_with fail
  refine wp_region_vague 41 [[], [0], [0, 1], [0, 1, 2], [0, 1, 2, 3], [0, 1, 2, 3, 4], [0, 1, 2, 3, 4, 5], [0, 1, 2, 3, 4, 5, 6], [0, 1, 2, 3, 4, 5, 6, 7], [0, 1, 2, 3, 4, 5, 6, 7, 8], [0, 1, 2, 3, 4, 5, 6, 7, 8, 9], [0, 1, 2, 3, 4, 5, 6, 7, 8, 9, 10], [0, 1, 2, 3, 4, 5, 6, 7, 8, 9, 10, 11], [0, 1, 2, 3, 4, 5, 6, 7, 8, 9, 10, 11, 12], [0, 1, 2, 3, 4, 5, 6, 7, 8, 9, 10], [0, 1, 2, 3, 4, 5, 6, 7, 8, 9, 10, 14], [0, 1, 2, 3, 4, 5, 6, 7, 8, 9, 10, 11, 12, 13, 14, 15], [0, 1, 2, 3, 4, 5, 6, 7, 8, 9, 10, 11, 12, 13, 14, 15, 16], [0, 1, 2, 3, 4, 5, 6, 7, 8, 9, 10, 11, 12, 13, 14, 15, 16, 17], [0, 1, 2, 3, 4, 5, 6, 7, 8, 9, 10, 11, 12, 13, 14, 15, 16, 17, 18], [0, 1, 2, 3, 4, 5, 6, 7, 8, 9, 10, 11, 12, 13, 14, 15, 16, 17, 18, 19], [0, 1, 2, 3, 4, 5, 6, 7, 8, 9, 10, 11, 12, 13, 14, 15, 16, 17, 18, 19, 20], [0, 1, 2, 3, 4, 5, 6, 7, 8, 9, 10, 11, 12, 13, 14, 15, 16, 17, 18, 19, 20, 21], [0, 1, 2, 3, 4, 5, 6, 7, 8, 9, 10, 11, 12, 13, 14, 15, 16, 17, 18, 19, 20, 21, 22], [0, 1, 2, 3, 4, 5, 6, 7, 8, 9, 10, 11, 12, 13, 14, 15, 16, 17, 18, 19, 20, 21, 22, 23], [0, 1, 2, 3, 4, 5, 6, 7, 8, 9, 10, 11, 12, 13, 14, 15, 16, 17, 18, 19, 20, 21, 22, 23, 24], [0, 1, 2, 3, 4, 5, 6, 7, 8, 9, 10, 11, 12, 13, 14, 15, 16, 17, 18, 19, 20, 21, 22, 23, 24, 25], [0, 1, 2, 3, 4, 5, 6, 7, 8, 9, 10, 11, 12, 13, 14, 15, 16, 17, 18, 19, 20, 21, 22, 23, 24], [0, 1, 2, 3, 4, 5, 6, 7, 8, 9, 10, 11, 12, 13, 14, 15, 16, 17, 18, 19, 20, 21, 22, 23, 24, 27], [0, 1, 2, 3, 4, 5, 6, 7, 8, 9, 10, 11, 12, 13, 14, 15, 16, 17, 18, 19, 20, 21, 22, 23, 24, 25, 26, 27, 28], [0, 1, 2, 3, 4, 5, 6, 7, 8, 9, 10, 11, 12, 13, 14, 15, 16, 17, 18, 19, 20, 21, 22, 23, 24, 25, 26, 27, 28, 29], [0, 1, 2, 3, 4, 5, 6, 7, 8, 9, 10, 11, 12, 13, 14, 15, 16, 17, 18, 19, 20, 21, 22, 23, 24, 25, 26, 27, 28, 29, 30], [0, 1, 2, 3, 4, 5, 6, 7, 8, 9, 10, 11, 12, 13, 14, 15, 16, 17, 18, 19, 20, 21, 22, 23, 24, 25, 26, 27, 28, 29, 30, 31], [0, 1, 2, 3, 4, 5, 6, 7, 8, 9, 10, 11, 12, 13, 14, 15, 16, 17, 18, 19, 20, 21, 22, 23, 24, 25, 26, 27, 28, 29, 30, 31, 32], [0, 1, 2, 3, 4, 5, 6, 7, 8, 9, 10, 11, 12, 13, 14, 15, 16, 17, 18, 19, 20, 21, 22, 23, 24, 25, 26, 27, 28, 29, 30, 31, 32, 33], [0, 1, 2, 3, 4, 5, 6, 7, 8, 9, 10, 11, 12, 13, 14, 15, 16, 17, 18, 19, 20, 21, 22, 23, 24, 25, 26, 27, 28, 29, 30, 31], [0, 1, 2, 3, 4, 5, 6, 7, 8, 9, 10, 11, 12, 13, 14, 15, 16, 17, 18, 19, 20, 21, 22, 23, 24, 25, 26, 27, 28, 29, 30, 31, 35], [0, 1, 2, 3, 4, 5, 6, 7, 8, 9, 10, 11, 12, 13, 14, 15, 16, 17, 18, 19, 20, 21, 22, 23, 24, 25, 26, 27, 28, 29, 30, 31, 35, 36], [0, 1, 2, 3, 4, 5, 6, 7, 8, 9, 10, 11, 12, 13, 14, 15, 16, 17, 18, 19, 20, 21, 22, 23, 24, 25, 26, 27, 28, 29, 30, 31, 35, 36, 37], [0, 1, 2, 3, 4, 5, 6, 7, 8, 9, 10, 11, 12, 13, 14, 15, 16, 17, 18, 19, 20, 21, 22, 23, 24, 25, 26, 27, 28, 29, 30, 31, 32, 33, 34, 35, 36, 37, 38], [0, 1, 2, 3, 4, 5, 6, 7, 8, 9, 10, 11, 12, 13, 14, 15, 16, 17, 18, 19, 20, 21, 22, 23, 24, 25, 26, 27, 28, 29, 30, 31, 32, 33, 34, 35, 36, 37, 38, 39]] (by kernel_rfl) (by kernel_rfl) (by kernel_rfl) (by kernel_rfl) ?_; simp only [List.take_succ_cons, List.take_zero, List.drop_succ_cons, List.drop_zero, List.take_nil, List.drop_nil]
  (repeat (apply VD_der; (case h => (intro us w' hx hf; obtain ⟨x, rfl⟩ := hx.out; refine ⟨rfl, ?_⟩; simp [go_sem, execOp, *]; (try simp (disch := omega) only [Go.IntWalk.i64_in, Go.IntWalk.rem_in, Go.IntWalk.wrap64_in]); rfl)); (try simp only [Act.put, List.setIfInBounds_toArray, List.set_cons_succ, List.set_cons_zero])))
  (refine VD_load_arr (RH13) _ rfl (fun _ => rfl) (g3) (0) (fun _ => by simp [go_sem]) ([.int .i64 (askH t).leap, .int .i64 (askH t).ver, .int .i64 (askH t).mode, .int .i64 (askH t).strat, .int .i64 (askH t).poll, .int .i64 (askH t).prec, .int .u32 (n32 (askH t).rd), .int .u32 (n32 (askH t).rp), .int .u32 (n32 (askH t).id), .int .u64 (n64 (askH t).ref), .int .u64 (n64 (askH t).org), .int .u64 (n64 (askH t).rcv), .int .u64 (n64 (askH t).tx)]) (hHd) (rfl) ?_)
  (repeat (apply VD_der; (case h => (intro us w' hx hf; obtain ⟨x, rfl⟩ := hx.out; refine ⟨rfl, ?_⟩; simp [go_sem, execOp, *]; (try simp (disch := omega) only [Go.IntWalk.i64_in, Go.IntWalk.rem_in, Go.IntWalk.wrap64_in]); rfl)); (try simp only [Act.put, List.setIfInBounds_toArray, List.set_cons_succ, List.set_cons_zero])))
  (refine VD_vag (fun _ => .agg #[.int .i64 (askH t).leap, .int .i64 (askH t).ver, .int .i64 (askH t).mode, .int .i64 (askH t).strat, .int .i64 (askH t).poll, .int .i64 (askH t).prec, .int .u32 (n32 (askH t).rd), .int .u32 (n32 (askH t).rp), .int .u32 (n32 (askH t).id), .int .u64 (n64 (askH t).ref), .int .u64 (n64 (askH t).org), .int .u64 (n64 (askH t).rcv), .int .u64 (n64 (askH t).tx)]) (fun _ _ => True) (fun _ _ _ _ _ => trivial) (fun us w' hx hf => ⟨rfl, ?_⟩) ?_; (unfold gives; simp [go_sem, execOp]; refine (hask _).mono ?_; rintro e w1 ⟨rfl, hx1⟩; first | exact ⟨rfl, hx1⟩ | simpa using hx1))
  (repeat (apply VD_der; (case h => (intro us w' hx hf; obtain ⟨x, rfl⟩ := hx.out; refine ⟨rfl, ?_⟩; simp [go_sem, execOp, *]; (try simp (disch := omega) only [Go.IntWalk.i64_in, Go.IntWalk.rem_in, Go.IntWalk.wrap64_in]); rfl)); (try simp only [Act.put, List.setIfInBounds_toArray, List.set_cons_succ, List.set_cons_zero])))
  (refine VD_nil ?_; intro us w' hx hf; obtain ⟨x, rfl⟩ := hx.out; (try simp only [Act.put, List.setIfInBounds_toArray, List.set_cons_succ, List.set_cons_zero, wpList_none]); (try simp only [List.mem_cons, List.not_mem_nil, or_false, forall_eq_or_imp, forall_eq, List.nil_append, List.cons_append, List.mem_append, false_or, true_and, and_true] at hf); (try simp only [Nat.reduceAdd, Nat.zero_add] at hf); (try simp only [Nat.reduceAdd, Nat.zero_add]))
  have hxx : Ext w11 (w11.ext x) := Ext.of_ext _ _
  have hE12 := hE11.trans hxx
  have hB1 := hB1.extB hxx
  have hB2 := hB2.extB hxx
  have hB3 := hB3.extB hxx
  have h3 := h3.ext hxx
  have hU := hU.ext hxx
  have p4 := p4.ext hxx
  have hI4 := hI4.ext hxx
  clear hE11 hxx hHd u2 v2 v3 x13 x14 hask hT1 hwb hf hx
  generalize w11.ext x = W at *
  have hn2 : 2 ≤ n4 := by have := e4.out; omega
  have hQi2 : ∀ i, 2 ≤ i → i < n4 → Q[i]? = some (772, List.replicate 104 0) := fun i h1 h2 => by
    obtain ⟨j, rfl⟩ : ∃ j, i = 2 + j := ⟨i - 2, by omega⟩
    exact hQi j (by have := e4.out; omega)
  clear hQi
  go_wp2_with fail
  go_loopw [20] (fun v20 wr => ∃ i : Nat, 2 ≤ i ∧ i ≤ n4 ∧ v20 = .int .i64 i ∧ Ext W wr) (fun v20 _ => n4 - (intOf v20).toNat)
  case atStart => exact ⟨2, by omega, hn2, rfl, Ext.refl _⟩
  case round =>
    obtain ⟨i, hi2, hin, rfl, hxL⟩ := hrel
    have hB3 := hB3.extB hxL
    haveI := hB3.blt
    have x13 := hB3.cell? 13 rfl
    by_cases hlt : i < n4
    · obtain ⟨b0, o0, gx, cx, rfl, hb0, q0, q1, qs, qc⟩ := (hI4.ext hxL).at i hlt _ (hQi2 i hi2 hlt)
      have i0 : (0 : Int) ≤ (i : Int) := by omega
      have i1 : (i : Int) < (n4 : Int) := by omega
      have hmk := run_make_by U 104 104 (Nat.le_refl _) (by omega)
      simp only [Int.cast_ofNat_Int] at hmk
      obtain ⟨Z, hZ⟩ : ∃ Z : List UInt8, Z = List.replicate 104 0 := ⟨_, rfl⟩
      have lZ : (List.replicate 104 (0 : UInt8)).length = 104 := List.length_replicate ..
      simp only [lZ] at q1 qs qc
      rw [← hZ] at qs
      have hown : ∀ V : World, Sl (V.alloc (.cells (zerosOf (.int .u8 0) 104) 5)) (some ⟨V.heap.size, 0, none⟩) 104 Z := fun V => by rw [hZ]; exact (blk_zeros8 V 104).sl rfl
      have hsm := fun (g : Option Addr) V (H1 : Sl V gx 104 Z) (H2 : Sl V g 104 Z) => same_any gx g 104 cx 104 104 Z Z V H1 H2
      clear hZ lZ hlt
      haveI := hb0
      go_wp2_with fail
      refine wp_region_vague 18 [[], [0], [], [0, 1, 2], [0, 1, 2, 3], [0, 1, 2, 3, 4], [0, 1, 2, 3, 4, 5], [0, 1, 2, 3, 4, 5, 6], [0, 1, 2, 3, 4, 5, 6, 7], [0, 1, 2, 3, 4, 5, 6, 7, 8], [0, 1, 2, 3, 4, 5, 6, 7], [0, 1, 2, 3, 4, 5, 6, 7, 8, 9, 10], [0, 1, 2, 3, 4, 5, 6, 7, 8, 9, 10, 11], [0, 1, 2, 3, 4, 5, 6, 7, 8, 9, 10, 11, 12], [0, 1, 2, 3, 4, 5, 6, 7], [0, 1, 2, 3, 4, 5, 6, 7, 8, 9, 10, 11, 12, 13, 14], [0, 1, 2, 3, 4, 5, 6, 7, 8, 9, 10, 11, 12, 13, 14, 15], [0, 1, 2, 3, 4, 5, 6, 7, 8, 9, 10, 11, 12, 13, 14, 15, 16]] (by kernel_rfl) (by kernel_rfl) (by kernel_rfl) (by kernel_rfl) ?_; simp only [List.take_succ_cons, List.take_zero, List.drop_succ_cons, List.drop_zero, List.take_nil, List.drop_nil]
      (repeat (apply VD_der; (case h => (intro us w' hx hf; obtain ⟨x, rfl⟩ := hx.out; refine ⟨rfl, ?_⟩; simp [go_sem, execOp, *]; (try simp (disch := omega) only [Go.IntWalk.i64_in, Go.IntWalk.rem_in, Go.IntWalk.wrap64_in]); rfl)); (try simp only [Act.put, List.setIfInBounds_toArray, List.set_cons_succ, List.set_cons_zero])))
      (refine VD_vag (fun p => .slice (p 0).1 104 104) (fun p w'' => Sl w'' (p 0).1 104 Z) (fun p w w' h hx => h.ext hx) (fun us w' hx hf => ⟨rfl, ?_⟩) ?_; (unfold gives; simp [go_sem, execOp, hmk]; exact ⟨fun _ => (some ⟨w'.heap.size, 0, none⟩, 0), rfl, Ext.of_alloc _ _, hown _⟩))
      (refine VD_vag (fun _ => .bool (Z == Z)) (fun _ _ => True) (fun _ _ _ _ _ => trivial) (fun us w' hx hf => ⟨rfl, ?_⟩) ?_; (unfold gives; simp [go_sem, execOp]; refine (hsm _ _ (qs.ext hx) (hf _ (List.mem_append_right _ (List.mem_singleton_self _)) rfl)).mono ?_; rintro e w1 ⟨rfl, hx1⟩; first | exact ⟨rfl, hx1⟩ | simpa using hx1))
      (repeat (apply VD_der; (case h => (intro us w' hx hf; obtain ⟨x, rfl⟩ := hx.out; refine ⟨rfl, ?_⟩; simp [go_sem, execOp, *]; (try simp (disch := omega) only [Go.IntWalk.i64_in, Go.IntWalk.rem_in, Go.IntWalk.wrap64_in]); rfl)); (try simp only [Act.put, List.setIfInBounds_toArray, List.set_cons_succ, List.set_cons_zero])))
      (refine VD_nil ?_; intro us w' hx hf; obtain ⟨x, rfl⟩ := hx.out; (try simp only [Act.put, List.setIfInBounds_toArray, List.set_cons_succ, List.set_cons_zero, wpList_none]); (try simp only [List.mem_cons, List.not_mem_nil, or_false, forall_eq_or_imp, forall_eq, List.nil_append, List.cons_append, List.mem_append, false_or, true_and, and_true] at hf); (try simp only [Nat.reduceAdd, Nat.zero_add] at hf); (try simp only [Nat.reduceAdd, Nat.zero_add]))
      go_wp2_with fail
      go_roundw
      case rel => exact ⟨i + 1, by omega, by omega, by go_num, hxL.trans (by repeat (first | (with_reducible first | exact Ext.refl _ | assumption | apply Ext.alloc | apply Ext.ext | apply Ext.drew | refine Ext.setCell ?_ ?_ _) | (focus (simp [go_sem]; done))))⟩
      case measure => simp [intOf]; omega
    · obtain rfl : i = n4 := by omega
      have i1 : ¬ (i : Int) < (i : Int) := by omega
      have hI4 := hI4.ext hxL
      have h3 := h3.ext hxL
      have hU := hU.ext hxL
      have p4 := p4.ext hxL
      have hB1 := hB1.extB hxL
      have hB2 := hB2.extB hxL
      have hE13 := hE12.trans hxL
      obtain ⟨b1, o1, gy, cy, hab, hb1, r0, r1, rs, rc⟩ := hI4.at 1 (by omega) _ hQ1
      obtain ⟨b0, o0, gx, cx, rfl, hb0, q0, q1, qs, qc⟩ := hI4.at 0 (by omega) _ hQ0
      injection hab with hab
      injection hab with e1 e2
      subst e1 e2
      obtain ⟨bc, oc, g0, n0, c0, rfl, hbc, hcell, hcc, hS0⟩ := h3.at 0 (by omega)
      have hS0 : Sl wr g0 n0 (ck0 s) := by
        obtain ⟨_, e⟩ := List.getElem?_eq_some_iff.1 hck0
        rw [e] at hS0; exact hS0
      have hl := hlast.out
      rw [hl] at p4
      generalize ck0 s = CC at *
      have q0 : wr.cell? ⟨b0, o0, none⟩ = some (.int .i64 260) := by simpa using q0
      have q1 : wr.cell? ⟨b0, o0 + 1, none⟩ = some (.slice gx UB.length cx) := by simpa using q1
      have r0 : wr.cell? ⟨b0, o0 + 2, none⟩ = some (.int .i64 516) := by simpa using r0
      have r1 : wr.cell? ⟨b0, o0 + 3, none⟩ = some (.slice gy CC.length cy) := by simpa using r1
      have hcell : wr.cell? ⟨bc, oc, none⟩ = some (.slice g0 n0 c0) := by simpa using hcell
      haveI := hb0
      haveI := hbc
      haveI := hB1.blt
      haveI := hB2.blt
      have u2 := hB1.cell? 2 rfl
      have v3 := hB2.cell? 3 rfl
      have j0 : 0 < i := by omega
      have j1 : 1 < i := by omega
      have j1i : (1 : Int) < (i : Int) := by omega
      have hs1 := fun V H1 H2 => same_any gx au UB.length cx 32 cu UB UB V H1 H2
      have hs2 := fun V H1 H2 => same_any gy g0 CC.length cy n0 c0 CC CC V H1 H2
      have hs3 := fun V H1 H2 => same_any (p 3).1 g0 104 (p 3).2 n0 c0 CC CC V H1 H2
      rw [beq_self_eq_true] at hs1 hs2 hs3
      clear hI4 hQ0 hQ1 hQi2 hQl hlast hl hB1 hB2 hB3 hE12 hin hn2 e4 lu ln lc hbc hb0 hb1 hi2
      go_wp2_with fail
      refine wp_region_vague 48 [[], [0], [0, 1], [0, 1, 2], [0, 1, 2, 3], [0, 1, 2, 3, 4], [0, 1, 2, 3, 4, 5], [0, 1, 2, 3, 4, 5, 6], [0, 1, 2, 3, 4, 5, 6, 7], [0, 1, 2, 3, 4, 5, 6, 7, 8], [0, 1, 2, 3, 4, 5, 6, 7, 8, 9], [0, 1, 2, 3, 4, 5, 6, 7, 8, 9, 10], [0, 1, 2, 3, 4, 5, 6, 7, 8, 9, 10, 11], [0, 1, 2, 3, 4, 5, 6, 7, 8, 9, 10, 11, 12], [0, 1, 2, 3, 4, 5, 6, 7, 8, 9, 10, 11, 12, 13], [0, 1, 2, 3, 4, 5, 6, 7, 8, 9], [0, 1, 2, 3, 4, 5, 6, 7, 8, 9, 10, 11, 12, 13, 14, 15], [0, 1, 2, 3, 4, 5, 6, 7, 8, 9, 10, 11, 12, 13, 14, 15, 16], [0, 1, 2, 3, 4, 5, 6, 7, 8, 9, 10, 11, 12, 13, 14, 15, 16, 17], [0, 1, 2, 3, 4, 5, 6, 7, 8, 9, 10, 11, 12, 13, 14, 15, 16, 17, 18], [0, 1, 2, 3, 4, 5, 6, 7, 8, 9, 10, 11, 12, 13, 14, 15, 16, 17, 18, 19], [0, 1, 2, 3, 4, 5, 6, 7, 8, 9, 10, 11, 12, 13, 14, 15, 16, 17, 18, 19, 20], [0, 1, 2, 3, 4, 5, 6, 7, 8, 9, 10, 11, 12, 13, 14, 15, 16, 17, 18, 19, 20, 21], [0, 1, 2, 3, 4, 5, 6, 7, 8, 9, 10, 11, 12, 13, 14, 15, 16, 17, 18, 19, 20, 21, 22], [0, 1, 2, 3, 4, 5, 6, 7, 8, 9, 10, 11, 12, 13, 14, 15, 16, 17, 18, 19, 20, 21, 22, 23], [0, 1, 2, 3, 4, 5, 6, 7, 8, 9, 10, 11, 12, 13, 14, 15, 16, 17, 18, 19, 20, 21, 22, 23, 24], [0, 1, 2, 3, 4, 5, 6, 7, 8, 9, 10, 11, 12, 13, 14, 15, 16, 17, 18, 19, 20, 21, 22, 23, 24, 25], [0, 1, 2, 3, 4, 5, 6, 7, 8, 9, 10, 11, 12, 13, 14, 15, 16, 17, 18, 19, 20, 21, 22, 23, 24, 25, 26], [0, 1, 2, 3, 4, 5, 6, 7, 8, 9, 10, 11, 12, 13, 14, 15, 16, 17, 18, 19, 20, 21, 22, 23, 24, 25, 26, 27], [0, 1, 2, 3, 4, 5, 6, 7, 8, 9, 10, 11, 12, 13, 14, 15, 16, 17, 18, 19, 20, 21, 22, 23, 24, 25, 26, 27, 28], [0, 1, 2, 3, 4, 5, 6, 7, 8, 9, 10, 11, 12, 13, 14, 15, 16, 17, 18, 19, 20, 21, 22, 23, 24, 25, 26, 27, 28, 29], [0, 1, 2, 3, 4, 5, 6, 7, 8, 9, 10, 11, 12, 13, 14, 15, 16, 17, 18, 19, 20, 21, 22, 23, 24, 25, 26, 27, 28, 29, 30], [0, 1, 2, 3, 4, 5, 6, 7, 8, 9, 10, 11, 12, 13, 14, 15, 16, 17, 18, 19, 20, 21, 22, 23, 24, 25, 26], [0, 1, 2, 3, 4, 5, 6, 7, 8, 9, 10, 11, 12, 13, 14, 15, 16, 17, 18, 19, 20, 21, 22, 23, 24, 25, 26, 32], [0, 1, 2, 3, 4, 5, 6, 7, 8, 9, 10, 11, 12, 13, 14, 15, 16, 17, 18, 19, 20, 21, 22, 23, 24, 25, 26, 32, 33], [0, 1, 2, 3, 4, 5, 6, 7, 8, 9, 10, 11, 12, 13, 14, 15, 16, 17, 18, 19, 20, 21, 22, 23, 24, 25, 26, 32, 33, 34], [0, 1, 2, 3, 4, 5, 6, 7, 8, 9, 10, 11, 12, 13, 14, 15, 16, 17, 18, 19, 20, 21, 22, 23, 24, 25, 26, 27, 28, 29, 30, 31, 32, 33, 34, 35], [0, 1, 2, 3, 4, 5, 6, 7, 8, 9, 10, 11, 12, 13, 14, 15, 16, 17, 18, 19, 20, 21, 22, 23, 24, 25, 26, 27, 28, 29, 30, 31, 32, 33, 34, 35, 36], [0, 1, 2, 3, 4, 5, 6, 7, 8, 9, 10, 11, 12, 13, 14, 15, 16, 17, 18, 19, 20, 21, 22, 23, 24, 25, 26, 27, 28, 29, 30, 31, 32, 33, 34, 35, 36, 37], [0, 1, 2, 3, 4, 5, 6, 7, 8, 9, 10, 11, 12, 13, 14, 15, 16, 17, 18, 19, 20, 21, 22, 23, 24, 25, 26, 27, 28, 29, 30, 31, 32, 33, 34, 35, 36, 37, 38], [0, 1, 2, 3, 4, 5, 6, 7, 8, 9, 10, 11, 12, 13, 14, 15, 16, 17, 18, 19, 20, 21, 22, 23, 24, 25, 26, 27, 28, 29, 30, 31, 32, 33, 34, 35, 36, 37, 38, 39], [0, 1, 2, 3, 4, 5, 6, 7, 8, 9, 10, 11, 12, 13, 14, 15, 16, 17, 18, 19, 20, 21, 22, 23, 24, 25, 26, 27, 28, 29, 30, 31, 32, 33, 34, 35, 36, 37, 38], [0, 1, 2, 3, 4, 5, 6, 7, 8, 9, 10, 11, 12, 13, 14, 15, 16, 17, 18, 19, 20, 21, 22, 23, 24, 25, 26, 27, 28, 29, 30, 31, 32, 33, 34, 35, 36, 37, 38, 41], [0, 1, 2, 3, 4, 5, 6, 7, 8, 9, 10, 11, 12, 13, 14, 15, 16, 17, 18, 19, 20, 21, 22, 23, 24, 25, 26, 27, 28, 29, 30, 31, 32, 33, 34, 35, 36, 37, 38, 41, 42], [0, 1, 2, 3, 4, 5, 6, 7, 8, 9, 10, 11, 12, 13, 14, 15, 16, 17, 18, 19, 20, 21, 22, 23, 24, 25, 26, 27, 28, 29, 30, 31, 32, 33, 34, 35, 36, 37, 38, 41, 42, 43], [0, 1, 2, 3, 4, 5, 6, 7, 8, 9, 10, 11, 12, 13, 14, 15, 16, 17, 18, 19, 20, 21, 22, 23, 24, 25, 26, 27, 28, 29, 30, 31, 32, 33, 34, 35, 36, 37, 38, 39, 40, 41, 42, 43, 44], [0, 1, 2, 3, 4, 5, 6, 7, 8, 9, 10, 11, 12, 13, 14, 15, 16, 17, 18, 19, 20, 21, 22, 23, 24, 25, 26, 27, 28, 29, 30, 31, 32, 33, 34, 35, 36, 37, 38, 39, 40, 41, 42, 43, 44, 45], [0, 1, 2, 3, 4, 5, 6, 7, 8, 9, 10, 11, 12, 13, 14, 15, 16, 17, 18, 19, 20, 21, 22, 23, 24, 25, 26, 27, 28, 29, 30, 31, 32, 33, 34, 35, 36, 37, 38, 39, 40, 41, 42, 43, 44, 45, 46]] (by kernel_rfl) (by kernel_rfl) (by kernel_rfl) (by kernel_rfl) ?_; simp only [List.take_succ_cons, List.take_zero, List.drop_succ_cons, List.drop_zero, List.take_nil, List.drop_nil]
      (refine VD_vag (fun _ => .bool true) (fun _ _ => True) (fun _ _ _ _ _ => trivial) (fun us w' hx hf => ⟨rfl, ?_⟩) ?_; (unfold gives; simp [go_sem, execOp]; refine (hk _).mono ?_; rintro e w1 ⟨rfl, hx1⟩; first | exact ⟨rfl, hx1⟩ | simpa using hx1))
      (repeat (apply VD_der; (case h => (intro us w' hx hf; obtain ⟨x, rfl⟩ := hx.out; refine ⟨rfl, ?_⟩; simp [go_sem, execOp, *]; (try simp (disch := omega) only [Go.IntWalk.i64_in, Go.IntWalk.rem_in, Go.IntWalk.wrap64_in]); rfl)); (try simp only [Act.put, List.setIfInBounds_toArray, List.set_cons_succ, List.set_cons_zero])))
      (refine VD_vag (fun _ => .bool true) (fun _ _ => True) (fun _ _ _ _ _ => trivial) (fun us w' hx hf => ⟨rfl, ?_⟩) ?_; (unfold gives; simp [go_sem, execOp]; refine (hs1 _ (qs.ext hx) (hU.ext hx)).mono ?_; rintro e w1 ⟨rfl, hx1⟩; first | exact ⟨rfl, hx1⟩ | simpa using hx1))
      (repeat (apply VD_der; (case h => (intro us w' hx hf; obtain ⟨x, rfl⟩ := hx.out; refine ⟨rfl, ?_⟩; simp [go_sem, execOp, *]; (try simp (disch := omega) only [Go.IntWalk.i64_in, Go.IntWalk.rem_in, Go.IntWalk.wrap64_in]); rfl)); (try simp only [Act.put, List.setIfInBounds_toArray, List.set_cons_succ, List.set_cons_zero])))
      (refine VD_vag (fun _ => .bool true) (fun _ _ => True) (fun _ _ _ _ _ => trivial) (fun us w' hx hf => ⟨rfl, ?_⟩) ?_; (unfold gives; simp [go_sem, execOp]; refine (hs2 _ (rs.ext hx) (hS0.ext hx)).mono ?_; rintro e w1 ⟨rfl, hx1⟩; first | exact ⟨rfl, hx1⟩ | simpa using hx1))
      (repeat (apply VD_der; (case h => (intro us w' hx hf; obtain ⟨x, rfl⟩ := hx.out; refine ⟨rfl, ?_⟩; simp [go_sem, execOp, *]; (try simp (disch := omega) only [Go.IntWalk.i64_in, Go.IntWalk.rem_in, Go.IntWalk.wrap64_in]); rfl)); (try simp only [Act.put, List.setIfInBounds_toArray, List.set_cons_succ, List.set_cons_zero])))
      (refine VD_vag (fun _ => .bool true) (fun _ _ => True) (fun _ _ _ _ _ => trivial) (fun us w' hx hf => ⟨rfl, ?_⟩) ?_; (unfold gives; simp [go_sem, execOp]; refine (hs3 _ (p4.ext hx) (hS0.ext hx)).mono ?_; rintro e w1 ⟨rfl, hx1⟩; first | exact ⟨rfl, hx1⟩ | simpa using hx1))
      (repeat (apply VD_der; (case h => (intro us w' hx hf; obtain ⟨x, rfl⟩ := hx.out; refine ⟨rfl, ?_⟩; simp [go_sem, execOp, *]; (try simp (disch := omega) only [Go.IntWalk.i64_in, Go.IntWalk.rem_in, Go.IntWalk.wrap64_in]); rfl)); (try simp only [Act.put, List.setIfInBounds_toArray, List.set_cons_succ, List.set_cons_zero])))
      (refine VD_nil ?_; intro us w' hx hf; obtain ⟨x, rfl⟩ := hx.out; (try simp only [Act.put, List.setIfInBounds_toArray, List.set_cons_succ, List.set_cons_zero, wpList_none]); (try simp only [List.mem_cons, List.not_mem_nil, or_false, forall_eq_or_imp, forall_eq, List.nil_append, List.cons_append, List.mem_append, false_or, true_and, and_true] at hf); (try simp only [Nat.reduceAdd, Nat.zero_add] at hf); (try simp only [Nat.reduceAdd, Nat.zero_add]))
      go_wp2_with fail
      go_ret
      exact ⟨rfl, hE13.trans (by repeat (first | (with_reducible first | exact Ext.refl _ | assumption | apply Ext.alloc | apply Ext.ext | apply Ext.drew | refine Ext.setCell ?_ ?_ _) | (focus (simp [go_sem]; done))))⟩
end Go.Proofs.Ytmmbcgbadaojeaa
