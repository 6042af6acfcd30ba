/- Lemmas of this claim, several texts joined. -/
import Derived.Test.YtkjdlbjbppbmdaaZ6
import Derived.Test.YtkjdlbjbppbmdaaZ32
set_option linter.unusedVariables false
set_option linter.unusedSimpArgs false
/- Layer 20: the law ChannelActs. -/
namespace Go.Proofs.Ytkjdlbjbppbmdaa
open Go.RowKit Go.Sec Go.Oct Go.Sha Go.Aes Go.Chan BigFrame

theorem lightC_spec {c : Ch} (h : lightC c = true) : c.sec.length ≤ 60 ∧ c.snd.length ≤ 60 ∧ c.rcv.length ≤ 60 := by simpa [lightC, and_assoc] using h
set_option maxRecDepth 100000 in
set_option maxHeartbeats 8000000 in
theorem channelActs_walk (v : Value) (ch : Ch) (cl : Bool) (a2 : Option Addr) (n2 c2 : Nat) (a3 : Option Addr) (n3 c3 : Nat) (kind n : Int) (lab : List UInt8) (bb hh : List UInt8) (w : World) (hv : ChR w v ch) (hB : Sl w a2 n2 bb) (hBc : n2 ≤ c2) (hH : Sl w a3 n3 hh) (hHc : n3 ≤ c3) :
    Calls Try.prog 11 #[v, .bool cl, .slice a2 n2 c2, .slice a3 n3 c3, .int .i64 kind, .int .i64 n, .string ⟨lab.toArray⟩] w fun e w' => e = .returned (.bool true) ∧ Ext w w' := by
  have hkn := fun W => known20_any W
  have hli := fun W h => light20_any v ch W h
  obtain ⟨e1, m1, e2, m2, e3, m3, rfl, h1, k1, h2, k2, h3, k3⟩ := id hv
  cases hL : lightC ch
  · rw [hL] at hli
    go_enter Try.func11, Try.ntmps11
    go_wp2_with (first
      | (go_at_call 60; (with_reducible refine (hli ?_ ?hq237).mono ?_); (case hq237 => (repeat' (first | with_reducible assumption | (with_reducible first | apply ChR.upE | apply ChR.upA | apply ChR.upD)))); rintro e w1 ⟨rfl, hxq⟩; obtain ⟨xq, rfl⟩ := hxq.out; clear hxq)
      | (go_at_call 25; refine (hkn _).mono ?_; rintro e w1 ⟨rfl, hxq⟩; obtain ⟨xq, rfl⟩ := hxq.out; clear hxq)
      | fail)
    go_ret
    exact ⟨rfl, (by repeat (first | (with_reducible first | exact Ext.refl _ | assumption | apply Ext.alloc | apply Ext.ext | apply Ext.drew | refine Ext.setCell ?_ ?_ _) | (focus (simp [go_sem]; done))))⟩
  · rw [hL] at hli
    obtain ⟨l1, l2, l3⟩ := lightC_spec hL
    by_cases x2 : 200 < n2
    · have hI : (200 : Int) < (n2 : Int) := by omega
      go_enter Try.func11, Try.ntmps11
      go_wp2_with (first
        | (go_at_call 60; (with_reducible refine (hli ?_ ?hq238).mono ?_); (case hq238 => (repeat' (first | with_reducible assumption | (with_reducible first | apply ChR.upE | apply ChR.upA | apply ChR.upD)))); rintro e w1 ⟨rfl, hxq⟩; obtain ⟨xq, rfl⟩ := hxq.out; clear hxq)
        | (go_at_call 25; refine (hkn _).mono ?_; rintro e w1 ⟨rfl, hxq⟩; obtain ⟨xq, rfl⟩ := hxq.out; clear hxq)
        | fail)
      go_ret
      exact ⟨rfl, (by repeat (first | (with_reducible first | exact Ext.refl _ | assumption | apply Ext.alloc | apply Ext.ext | apply Ext.drew | refine Ext.setCell ?_ ?_ _) | (focus (simp [go_sem]; done))))⟩
    · have hI2 : ¬ (200 : Int) < (n2 : Int) := by omega
      by_cases x3 : 100 < n3
      · have hI : (100 : Int) < (n3 : Int) := by omega
        go_enter Try.func11, Try.ntmps11
        go_wp2_with (first
          | (go_at_call 60; (with_reducible refine (hli ?_ ?hq239).mono ?_); (case hq239 => (repeat' (first | with_reducible assumption | (with_reducible first | apply ChR.upE | apply ChR.upA | apply ChR.upD)))); rintro e w1 ⟨rfl, hxq⟩; obtain ⟨xq, rfl⟩ := hxq.out; clear hxq)
          | (go_at_call 25; refine (hkn _).mono ?_; rintro e w1 ⟨rfl, hxq⟩; obtain ⟨xq, rfl⟩ := hxq.out; clear hxq)
          | fail)
        go_ret
        exact ⟨rfl, (by repeat (first | (with_reducible first | exact Ext.refl _ | assumption | apply Ext.alloc | apply Ext.ext | apply Ext.drew | refine Ext.setCell ?_ ?_ _) | (focus (simp [go_sem]; done))))⟩
      · have hI3 : ¬ (100 : Int) < (n3 : Int) := by omega
        by_cases xl : 40 < lab.length
        · have hI : ¬ lab.length ≤ 40 := by omega
          go_enter Try.func11, Try.ntmps11
          go_wp2_with (first
            | (go_at_call 60; (with_reducible refine (hli ?_ ?hq240).mono ?_); (case hq240 => (repeat' (first | with_reducible assumption | (with_reducible first | apply ChR.upE | apply ChR.upA | apply ChR.upD)))); rintro e w1 ⟨rfl, hxq⟩; obtain ⟨xq, rfl⟩ := hxq.out; clear hxq)
            | (go_at_call 25; refine (hkn _).mono ?_; rintro e w1 ⟨rfl, hxq⟩; obtain ⟨xq, rfl⟩ := hxq.out; clear hxq)
            | fail)
          go_ret
          exact ⟨rfl, (by repeat (first | (with_reducible first | exact Ext.refl _ | assumption | apply Ext.alloc | apply Ext.ext | apply Ext.drew | refine Ext.setCell ?_ ?_ _) | (focus (simp [go_sem]; done))))⟩
        · have hIl : lab.length ≤ 40 := by omega
          by_cases xn : 100 < n ∧ n ≤ 8160
          · obtain ⟨hI4, hI5⟩ := xn
            go_enter Try.func11, Try.ntmps11
            go_wp2_with (first
              | (go_at_call 60; (with_reducible refine (hli ?_ ?hq241).mono ?_); (case hq241 => (repeat' (first | with_reducible assumption | (with_reducible first | apply ChR.upE | apply ChR.upA | apply ChR.upD)))); rintro e w1 ⟨rfl, hxq⟩; obtain ⟨xq, rfl⟩ := hxq.out; clear hxq)
              | (go_at_call 25; refine (hkn _).mono ?_; rintro e w1 ⟨rfl, hxq⟩; obtain ⟨xq, rfl⟩ := hxq.out; clear hxq)
              | fail)
            go_ret
            exact ⟨rfl, (by repeat (first | (with_reducible first | exact Ext.refl _ | assumption | apply Ext.alloc | apply Ext.ext | apply Ext.drew | refine Ext.setCell ?_ ?_ _) | (focus (simp [go_sem]; done))))⟩
          · by_cases hI4 : n ≤ 100
            · have hI5 : ¬ 100 < n := by omega
              have f1 := fun W h h' => begin_any cl a2 a3 n2 c2 n3 c3 bb hh W h hBc h' hHc (by omega)
              have g1 := fun W h h' => rbegin_any cl a2 a3 n2 c2 n3 c3 bb hh W h hBc h' hHc (by omega)
              have f2 := fun v W h h' => send_any v ch kind a2 n2 c2 bb W h (by omega) h' hBc
              have g2 := fun v W h h' => rsend_any v ch kind a2 n2 c2 bb W h (by omega) h' hBc
              have f3 := fun v W h h' => recv_any v ch a2 n2 c2 bb W h (by omega) h' hBc (by omega)
              have g3 := fun v W h h' => rrecv_any v ch a2 n2 c2 bb W h (by omega) h' hBc (by omega)
              have f4 := fun v W h h' => export_any v ch lab a3 n3 c3 hh n W h (by omega) h' hHc (by omega) (by omega)
              have g4 := fun v W h h' => rexport_any v ch lab a3 n3 c3 hh n W h (by omega) h' hHc (by omega) (by omega)
              have f5 := fun v W h h' => renew_any v ch a2 n2 c2 bb W h (by omega) h' hBc (by omega)
              have g5 := fun v W h h' => rrenew_any v ch a2 n2 c2 bb W h (by omega) h' hBc (by omega)
              have f6 := fun v W h => valid_any v ch W h (by omega)
              have g6 := fun v W h => rvalid_any v ch W h (by omega)
              generalize beginE cl bb hh = R1 at *
              generalize sendE ch kind bb = R2 at *
              generalize recvE ch bb = R3 at *
              generalize exportE ch lab hh n = R4 at *
              generalize renewE ch bb = R5 at *
              generalize validC ch = R6 at *
              go_enter Try.func11, Try.ntmps11
              go_wp2_with (first
                | (go_at_call 60; (with_reducible refine (hli ?_ ?hq242).mono ?_); (case hq242 => (repeat' (first | with_reducible assumption | (with_reducible first | apply ChR.upE | apply ChR.upA | apply ChR.upD)))); rintro e w1 ⟨rfl, hxq⟩; obtain ⟨xq, rfl⟩ := hxq.out; clear hxq)
                | fail)
              obtain ⟨W, hW⟩ : ∃ W, W = (w.alloc (.cells #[.bool ch.cl, .slice e1 ch.sec.length m1, .slice e2 ch.snd.length m2, .slice e3 ch.rcv.length m3, .int .i64 ch.st, .int .i64 ch.rc] 24)).ext xq := ⟨_, rfl⟩
              have hE : Ext w W := by rw [hW]; exact (by repeat (first | (with_reducible first | exact Ext.refl _ | assumption | apply Ext.alloc | apply Ext.ext | apply Ext.drew | refine Ext.setCell ?_ ?_ _) | (focus (simp [go_sem]; done))))
              have hbx : Blk W w.heap.size 24 [.bool ch.cl, .slice e1 ch.sec.length m1, .slice e2 ch.snd.length m2, .slice e3 ch.rcv.length m3, .int .i64 ch.st, .int .i64 ch.rc] := by rw [hW]; exact (Blk.new w #[.bool ch.cl, .slice e1 ch.sec.length m1, .slice e2 ch.snd.length m2, .slice e3 ch.rcv.length m3, .int .i64 ch.st, .int .i64 ch.rc] 24).ext xq
              have hc := hv.ext hE
              have hb := hB.ext hE
              have hh' := hH.ext hE
              rw [← hW]
              clear hW
              (with_reducible refine (f1 _ hb hh').mono ?_)
              rintro e y1 ⟨v, rfl, hv', hx⟩
              obtain ⟨p1, rfl, q1⟩ := hv'.cells
              clear hv'
              (try replace hbx := hbx.extB hx)
              (try replace hc := hc.ext hx)
              (try replace hb := hb.ext hx)
              (try replace hh' := hh'.ext hx)
              (try replace hE := hE.trans hx)
              (try replace b1 := b1.ext hx)
              (try replace b2 := b2.ext hx)
              (try replace b3 := b3.ext hx)
              (try replace b4 := b4.ext hx)
              (try replace b5 := b5.ext hx)
              (try replace b6 := b6.ext hx)
              (try replace b7 := b7.ext hx)
              (try replace b8 := b8.ext hx)
              (try replace s2 := s2.ext hx)
              (try replace s3 := s3.ext hx)
              (try replace s4 := s4.ext hx)
              (try replace s5 := s5.ext hx)
              (try replace s6 := s6.ext hx)
              (try replace s7 := s7.ext hx)
              (try replace s8 := s8.ext hx)
              clear hx
              go_wp2_with (first
                | (refine wpList_alloc_store (RC6) rfl rfl _ _ rfl rfl rfl rfl (by simp [Act.put]) (chCells R1.1 p1) rfl (by simp) (rfl) ((chCells_one _ _)) ?_; intro x hz _)
                | (refine wpList_load_arr (RC6) rfl _ rfl (w.heap.size) (0) rfl ([.bool ch.cl, .slice e1 ch.sec.length m1, .slice e2 ch.snd.length m2, .slice e3 ch.rcv.length m3, .int .i64 ch.st, .int .i64 ch.rc]) (((hbx.extB (by repeat (first | (with_reducible first | exact Ext.refl _ | assumption | apply Ext.alloc | apply Ext.ext | apply Ext.drew | refine Ext.setCell ?_ ?_ _) | (focus (simp [go_sem]; done))))).rd)) (rfl) ?_)
                | fail)
              obtain ⟨W, hW⟩ : ∃ W, W = y1.ext x := ⟨_, rfl⟩
              rw [← hW] at hz ⊢
              have hx : Ext y1 W := by rw [hW]; exact Ext.of_ext _ _
              have b1 : ChB 24 R1.1 p1 y1.heap.size W := ⟨hz, q1.ext hx⟩
              clear hW hz q1
              (try replace hbx := hbx.extB hx)
              (try replace hc := hc.ext hx)
              (try replace hb := hb.ext hx)
              (try replace hh' := hh'.ext hx)
              (try replace hE := hE.trans hx)
              (try replace b1 := b1.ext hx)
              (try replace b2 := b2.ext hx)
              (try replace b3 := b3.ext hx)
              (try replace b4 := b4.ext hx)
              (try replace b5 := b5.ext hx)
              (try replace b6 := b6.ext hx)
              (try replace b7 := b7.ext hx)
              (try replace b8 := b8.ext hx)
              (try replace s2 := s2.ext hx)
              (try replace s3 := s3.ext hx)
              (try replace s4 := s4.ext hx)
              (try replace s5 := s5.ext hx)
              (try replace s6 := s6.ext hx)
              (try replace s7 := s7.ext hx)
              (try replace s8 := s8.ext hx)
              clear hx
              (with_reducible refine (g1 _ hb hh').mono ?_)
              rintro e y2 ⟨v, rfl, hv', hx⟩
              obtain ⟨p2, rfl, q2⟩ := hv'.cells
              clear hv'
              (try replace hbx := hbx.extB hx)
              (try replace hc := hc.ext hx)
              (try replace hb := hb.ext hx)
              (try replace hh' := hh'.ext hx)
              (try replace hE := hE.trans hx)
              (try replace b1 := b1.ext hx)
              (try replace b2 := b2.ext hx)
              (try replace b3 := b3.ext hx)
              (try replace b4 := b4.ext hx)
              (try replace b5 := b5.ext hx)
              (try replace b6 := b6.ext hx)
              (try replace b7 := b7.ext hx)
              (try replace b8 := b8.ext hx)
              (try replace s2 := s2.ext hx)
              (try replace s3 := s3.ext hx)
              (try replace s4 := s4.ext hx)
              (try replace s5 := s5.ext hx)
              (try replace s6 := s6.ext hx)
              (try replace s7 := s7.ext hx)
              (try replace s8 := s8.ext hx)
              clear hx
              go_wp2_with (first
                | (refine wpList_alloc_store (RC6) rfl rfl _ _ rfl rfl rfl rfl (by simp [Act.put]) (chCells R1.1 p2) rfl (by simp) (rfl) ((chCells_one _ _)) ?_; intro x hz _)
                | (refine wpList_load_arr (RC6) rfl _ rfl (w.heap.size) (0) rfl ([.bool ch.cl, .slice e1 ch.sec.length m1, .slice e2 ch.snd.length m2, .slice e3 ch.rcv.length m3, .int .i64 ch.st, .int .i64 ch.rc]) (((hbx.extB (by repeat (first | (with_reducible first | exact Ext.refl _ | assumption | apply Ext.alloc | apply Ext.ext | apply Ext.drew | refine Ext.setCell ?_ ?_ _) | (focus (simp [go_sem]; done))))).rd)) (rfl) ?_)
                | fail)
              obtain ⟨W, hW⟩ : ∃ W, W = y2.ext x := ⟨_, rfl⟩
              rw [← hW] at hz ⊢
              have hx : Ext y2 W := by rw [hW]; exact Ext.of_ext _ _
              have b2 : ChB 24 R1.1 p2 y2.heap.size W := ⟨hz, q2.ext hx⟩
              clear hW hz q2
              (try replace hbx := hbx.extB hx)
              (try replace hc := hc.ext hx)
              (try replace hb := hb.ext hx)
              (try replace hh' := hh'.ext hx)
              (try replace hE := hE.trans hx)
              (try replace b1 := b1.ext hx)
              (try replace b2 := b2.ext hx)
              (try replace b3 := b3.ext hx)
              (try replace b4 := b4.ext hx)
              (try replace b5 := b5.ext hx)
              (try replace b6 := b6.ext hx)
              (try replace b7 := b7.ext hx)
              (try replace b8 := b8.ext hx)
              (try replace s2 := s2.ext hx)
              (try replace s3 := s3.ext hx)
              (try replace s4 := s4.ext hx)
              (try replace s5 := s5.ext hx)
              (try replace s6 := s6.ext hx)
              (try replace s7 := s7.ext hx)
              (try replace s8 := s8.ext hx)
              clear hx
              (with_reducible refine (f2 _ _ hc hb).mono ?_)
              rintro e y3 ⟨v, r3, d3, rfl, hv', s2, t2, hx⟩
              obtain ⟨p3, rfl, q3⟩ := hv'.cells
              clear hv'
              (try replace hbx := hbx.extB hx)
              (try replace hc := hc.ext hx)
              (try replace hb := hb.ext hx)
              (try replace hh' := hh'.ext hx)
              (try replace hE := hE.trans hx)
              (try replace b1 := b1.ext hx)
              (try replace b2 := b2.ext hx)
              (try replace b3 := b3.ext hx)
              (try replace b4 := b4.ext hx)
              (try replace b5 := b5.ext hx)
              (try replace b6 := b6.ext hx)
              (try replace b7 := b7.ext hx)
              (try replace b8 := b8.ext hx)
              (try replace s2 := s2.ext hx)
              (try replace s3 := s3.ext hx)
              (try replace s4 := s4.ext hx)
              (try replace s5 := s5.ext hx)
              (try replace s6 := s6.ext hx)
              (try replace s7 := s7.ext hx)
              (try replace s8 := s8.ext hx)
              clear hx
              go_wp2_with (first
                | (refine wpList_alloc_store (RC6) rfl rfl _ _ rfl rfl rfl rfl (by simp [Act.put]) (chCells R2.1 p3) rfl (by simp) (rfl) ((chCells_one _ _)) ?_; intro x hz _)
                | (refine wpList_load_arr (RC6) rfl _ rfl (w.heap.size) (0) rfl ([.bool ch.cl, .slice e1 ch.sec.length m1, .slice e2 ch.snd.length m2, .slice e3 ch.rcv.length m3, .int .i64 ch.st, .int .i64 ch.rc]) (((hbx.extB (by repeat (first | (with_reducible first | exact Ext.refl _ | assumption | apply Ext.alloc | apply Ext.ext | apply Ext.drew | refine Ext.setCell ?_ ?_ _) | (focus (simp [go_sem]; done))))).rd)) (rfl) ?_)
                | fail)
              obtain ⟨W, hW⟩ : ∃ W, W = y3.ext x := ⟨_, rfl⟩
              rw [← hW] at hz ⊢
              have hx : Ext y3 W := by rw [hW]; exact Ext.of_ext _ _
              have b3 : ChB 24 R2.1 p3 y3.heap.size W := ⟨hz, q3.ext hx⟩
              clear hW hz q3
              (try replace hbx := hbx.extB hx)
              (try replace hc := hc.ext hx)
              (try replace hb := hb.ext hx)
              (try replace hh' := hh'.ext hx)
              (try replace hE := hE.trans hx)
              (try replace b1 := b1.ext hx)
              (try replace b2 := b2.ext hx)
              (try replace b3 := b3.ext hx)
              (try replace b4 := b4.ext hx)
              (try replace b5 := b5.ext hx)
              (try replace b6 := b6.ext hx)
              (try replace b7 := b7.ext hx)
              (try replace b8 := b8.ext hx)
              (try replace s2 := s2.ext hx)
              (try replace s3 := s3.ext hx)
              (try replace s4 := s4.ext hx)
              (try replace s5 := s5.ext hx)
              (try replace s6 := s6.ext hx)
              (try replace s7 := s7.ext hx)
              (try replace s8 := s8.ext hx)
              clear hx
              (with_reducible refine (g2 _ _ hc hb).mono ?_)
              rintro e y4 ⟨v, r4, d4, rfl, hv', s3, t3, hx⟩
              obtain ⟨p4, rfl, q4⟩ := hv'.cells
              clear hv'
              (try replace hbx := hbx.extB hx)
              (try replace hc := hc.ext hx)
              (try replace hb := hb.ext hx)
              (try replace hh' := hh'.ext hx)
              (try replace hE := hE.trans hx)
              (try replace b1 := b1.ext hx)
              (try replace b2 := b2.ext hx)
              (try replace b3 := b3.ext hx)
              (try replace b4 := b4.ext hx)
              (try replace b5 := b5.ext hx)
              (try replace b6 := b6.ext hx)
              (try replace b7 := b7.ext hx)
              (try replace b8 := b8.ext hx)
              (try replace s2 := s2.ext hx)
              (try replace s3 := s3.ext hx)
              (try replace s4 := s4.ext hx)
              (try replace s5 := s5.ext hx)
              (try replace s6 := s6.ext hx)
              (try replace s7 := s7.ext hx)
              (try replace s8 := s8.ext hx)
              clear hx
              go_wp2_with (first
                | (refine wpList_alloc_store (RC6) rfl rfl _ _ rfl rfl rfl rfl (by simp [Act.put]) (chCells R2.1 p4) rfl (by simp) (rfl) ((chCells_one _ _)) ?_; intro x hz _)
                | (refine wpList_load_arr (RC6) rfl _ rfl (w.heap.size) (0) rfl ([.bool ch.cl, .slice e1 ch.sec.length m1, .slice e2 ch.snd.length m2, .slice e3 ch.rcv.length m3, .int .i64 ch.st, .int .i64 ch.rc]) (((hbx.extB (by repeat (first | (with_reducible first | exact Ext.refl _ | assumption | apply Ext.alloc | apply Ext.ext | apply Ext.drew | refine Ext.setCell ?_ ?_ _) | (focus (simp [go_sem]; done))))).rd)) (rfl) ?_)
                | fail)
              obtain ⟨W, hW⟩ : ∃ W, W = y4.ext x := ⟨_, rfl⟩
              rw [← hW] at hz ⊢
              have hx : Ext y4 W := by rw [hW]; exact Ext.of_ext _ _
              have b4 : ChB 24 R2.1 p4 y4.heap.size W := ⟨hz, q4.ext hx⟩
              clear hW hz q4
              (try replace hbx := hbx.extB hx)
              (try replace hc := hc.ext hx)
              (try replace hb := hb.ext hx)
              (try replace hh' := hh'.ext hx)
              (try replace hE := hE.trans hx)
              (try replace b1 := b1.ext hx)
              (try replace b2 := b2.ext hx)
              (try replace b3 := b3.ext hx)
              (try replace b4 := b4.ext hx)
              (try replace b5 := b5.ext hx)
              (try replace b6 := b6.ext hx)
              (try replace b7 := b7.ext hx)
              (try replace b8 := b8.ext hx)
              (try replace s2 := s2.ext hx)
              (try replace s3 := s3.ext hx)
              (try replace s4 := s4.ext hx)
              (try replace s5 := s5.ext hx)
              (try replace s6 := s6.ext hx)
              (try replace s7 := s7.ext hx)
              (try replace s8 := s8.ext hx)
              clear hx
              (with_reducible refine (f3 _ _ hc hb).mono ?_)
              rintro e y5 ⟨v, r5, d5, rfl, hv', s4, t4, hx⟩
              obtain ⟨p5, rfl, q5⟩ := hv'.cells
              clear hv'
              (try replace hbx := hbx.extB hx)
              (try replace hc := hc.ext hx)
              (try replace hb := hb.ext hx)
              (try replace hh' := hh'.ext hx)
              (try replace hE := hE.trans hx)
              (try replace b1 := b1.ext hx)
              (try replace b2 := b2.ext hx)
              (try replace b3 := b3.ext hx)
              (try replace b4 := b4.ext hx)
              (try replace b5 := b5.ext hx)
              (try replace b6 := b6.ext hx)
              (try replace b7 := b7.ext hx)
              (try replace b8 := b8.ext hx)
              (try replace s2 := s2.ext hx)
              (try replace s3 := s3.ext hx)
              (try replace s4 := s4.ext hx)
              (try replace s5 := s5.ext hx)
              (try replace s6 := s6.ext hx)
              (try replace s7 := s7.ext hx)
              (try replace s8 := s8.ext hx)
              clear hx
              go_wp2_with (first
                | (refine wpList_alloc_store (RC6) rfl rfl _ _ rfl rfl rfl rfl (by simp [Act.put]) (chCells R3.1 p5) rfl (by simp) (rfl) ((chCells_one _ _)) ?_; intro x hz _)
                | (refine wpList_load_arr (RC6) rfl _ rfl (w.heap.size) (0) rfl ([.bool ch.cl, .slice e1 ch.sec.length m1, .slice e2 ch.snd.length m2, .slice e3 ch.rcv.length m3, .int .i64 ch.st, .int .i64 ch.rc]) (((hbx.extB (by repeat (first | (with_reducible first | exact Ext.refl _ | assumption | apply Ext.alloc | apply Ext.ext | apply Ext.drew | refine Ext.setCell ?_ ?_ _) | (focus (simp [go_sem]; done))))).rd)) (rfl) ?_)
                | fail)
              obtain ⟨W, hW⟩ : ∃ W, W = y5.ext x := ⟨_, rfl⟩
              rw [← hW] at hz ⊢
              have hx : Ext y5 W := by rw [hW]; exact Ext.of_ext _ _
              have b5 : ChB 24 R3.1 p5 y5.heap.size W := ⟨hz, q5.ext hx⟩
              clear hW hz q5
              (try replace hbx := hbx.extB hx)
              (try replace hc := hc.ext hx)
              (try replace hb := hb.ext hx)
              (try replace hh' := hh'.ext hx)
              (try replace hE := hE.trans hx)
              (try replace b1 := b1.ext hx)
              (try replace b2 := b2.ext hx)
              (try replace b3 := b3.ext hx)
              (try replace b4 := b4.ext hx)
              (try replace b5 := b5.ext hx)
              (try replace b6 := b6.ext hx)
              (try replace b7 := b7.ext hx)
              (try replace b8 := b8.ext hx)
              (try replace s2 := s2.ext hx)
              (try replace s3 := s3.ext hx)
              (try replace s4 := s4.ext hx)
              (try replace s5 := s5.ext hx)
              (try replace s6 := s6.ext hx)
              (try replace s7 := s7.ext hx)
              (try replace s8 := s8.ext hx)
              clear hx
              (with_reducible refine (g3 _ _ hc hb).mono ?_)
              rintro e y6 ⟨v, r6, d6, rfl, hv', s5, t5, hx⟩
              obtain ⟨p6, rfl, q6⟩ := hv'.cells
              clear hv'
              (try replace hbx := hbx.extB hx)
              (try replace hc := hc.ext hx)
              (try replace hb := hb.ext hx)
              (try replace hh' := hh'.ext hx)
              (try replace hE := hE.trans hx)
              (try replace b1 := b1.ext hx)
              (try replace b2 := b2.ext hx)
              (try replace b3 := b3.ext hx)
              (try replace b4 := b4.ext hx)
              (try replace b5 := b5.ext hx)
              (try replace b6 := b6.ext hx)
              (try replace b7 := b7.ext hx)
              (try replace b8 := b8.ext hx)
              (try replace s2 := s2.ext hx)
              (try replace s3 := s3.ext hx)
              (try replace s4 := s4.ext hx)
              (try replace s5 := s5.ext hx)
              (try replace s6 := s6.ext hx)
              (try replace s7 := s7.ext hx)
              (try replace s8 := s8.ext hx)
              clear hx
              go_wp2_with (first
                | (refine wpList_alloc_store (RC6) rfl rfl _ _ rfl rfl rfl rfl (by simp [Act.put]) (chCells R3.1 p6) rfl (by simp) (rfl) ((chCells_one _ _)) ?_; intro x hz _)
                | (refine wpList_load_arr (RC6) rfl _ rfl (w.heap.size) (0) rfl ([.bool ch.cl, .slice e1 ch.sec.length m1, .slice e2 ch.snd.length m2, .slice e3 ch.rcv.length m3, .int .i64 ch.st, .int .i64 ch.rc]) (((hbx.extB (by repeat (first | (with_reducible first | exact Ext.refl _ | assumption | apply Ext.alloc | apply Ext.ext | apply Ext.drew | refine Ext.setCell ?_ ?_ _) | (focus (simp [go_sem]; done))))).rd)) (rfl) ?_)
                | fail)
              obtain ⟨W, hW⟩ : ∃ W, W = y6.ext x := ⟨_, rfl⟩
              rw [← hW] at hz ⊢
              have hx : Ext y6 W := by rw [hW]; exact Ext.of_ext _ _
              have b6 : ChB 24 R3.1 p6 y6.heap.size W := ⟨hz, q6.ext hx⟩
              clear hW hz q6
              (try replace hbx := hbx.extB hx)
              (try replace hc := hc.ext hx)
              (try replace hb := hb.ext hx)
              (try replace hh' := hh'.ext hx)
              (try replace hE := hE.trans hx)
              (try replace b1 := b1.ext hx)
              (try replace b2 := b2.ext hx)
              (try replace b3 := b3.ext hx)
              (try replace b4 := b4.ext hx)
              (try replace b5 := b5.ext hx)
              (try replace b6 := b6.ext hx)
              (try replace b7 := b7.ext hx)
              (try replace b8 := b8.ext hx)
              (try replace s2 := s2.ext hx)
              (try replace s3 := s3.ext hx)
              (try replace s4 := s4.ext hx)
              (try replace s5 := s5.ext hx)
              (try replace s6 := s6.ext hx)
              (try replace s7 := s7.ext hx)
              (try replace s8 := s8.ext hx)
              clear hx
              (with_reducible refine (f4 _ _ hc hh').mono ?_)
              rintro e y7 ⟨r7, d7, rfl, s7, t7, hx⟩
              (try replace hbx := hbx.extB hx)
              (try replace hc := hc.ext hx)
              (try replace hb := hb.ext hx)
              (try replace hh' := hh'.ext hx)
              (try replace hE := hE.trans hx)
              (try replace b1 := b1.ext hx)
              (try replace b2 := b2.ext hx)
              (try replace b3 := b3.ext hx)
              (try replace b4 := b4.ext hx)
              (try replace b5 := b5.ext hx)
              (try replace b6 := b6.ext hx)
              (try replace b7 := b7.ext hx)
              (try replace b8 := b8.ext hx)
              (try replace s2 := s2.ext hx)
              (try replace s3 := s3.ext hx)
              (try replace s4 := s4.ext hx)
              (try replace s5 := s5.ext hx)
              (try replace s6 := s6.ext hx)
              (try replace s7 := s7.ext hx)
              (try replace s8 := s8.ext hx)
              clear hx
              go_wp2_with (first
                | (refine wpList_load_arr (RC6) rfl _ rfl (w.heap.size) (0) rfl ([.bool ch.cl, .slice e1 ch.sec.length m1, .slice e2 ch.snd.length m2, .slice e3 ch.rcv.length m3, .int .i64 ch.st, .int .i64 ch.rc]) ((hbx.rd)) (rfl) ?_)
                | fail)
              (with_reducible refine (g4 _ _ hc hh').mono ?_)
              rintro e y8 ⟨r8, d8, rfl, s8, t8, hx⟩
              (try replace hbx := hbx.extB hx)
              (try replace hc := hc.ext hx)
              (try replace hb := hb.ext hx)
              (try replace hh' := hh'.ext hx)
              (try replace hE := hE.trans hx)
              (try replace b1 := b1.ext hx)
              (try replace b2 := b2.ext hx)
              (try replace b3 := b3.ext hx)
              (try replace b4 := b4.ext hx)
              (try replace b5 := b5.ext hx)
              (try replace b6 := b6.ext hx)
              (try replace b7 := b7.ext hx)
              (try replace b8 := b8.ext hx)
              (try replace s2 := s2.ext hx)
              (try replace s3 := s3.ext hx)
              (try replace s4 := s4.ext hx)
              (try replace s5 := s5.ext hx)
              (try replace s6 := s6.ext hx)
              (try replace s7 := s7.ext hx)
              (try replace s8 := s8.ext hx)
              clear hx
              go_wp2_with (first
                | (refine wpList_load_arr (RC6) rfl _ rfl (w.heap.size) (0) rfl ([.bool ch.cl, .slice e1 ch.sec.length m1, .slice e2 ch.snd.length m2, .slice e3 ch.rcv.length m3, .int .i64 ch.st, .int .i64 ch.rc]) ((hbx.rd)) (rfl) ?_)
                | fail)
              (with_reducible refine (f5 _ _ hc hb).mono ?_)
              rintro e y9 ⟨v, rfl, hv', hx⟩
              obtain ⟨p9, rfl, q9⟩ := hv'.cells
              clear hv'
              (try replace hbx := hbx.extB hx)
              (try replace hc := hc.ext hx)
              (try replace hb := hb.ext hx)
              (try replace hh' := hh'.ext hx)
              (try replace hE := hE.trans hx)
              (try replace b1 := b1.ext hx)
              (try replace b2 := b2.ext hx)
              (try replace b3 := b3.ext hx)
              (try replace b4 := b4.ext hx)
              (try replace b5 := b5.ext hx)
              (try replace b6 := b6.ext hx)
              (try replace b7 := b7.ext hx)
              (try replace b8 := b8.ext hx)
              (try replace s2 := s2.ext hx)
              (try replace s3 := s3.ext hx)
              (try replace s4 := s4.ext hx)
              (try replace s5 := s5.ext hx)
              (try replace s6 := s6.ext hx)
              (try replace s7 := s7.ext hx)
              (try replace s8 := s8.ext hx)
              clear hx
              go_wp2_with (first
                | (refine wpList_alloc_store (RC6) rfl rfl _ _ rfl rfl rfl rfl (by simp [Act.put]) (chCells R5.1 p9) rfl (by simp) (rfl) ((chCells_one _ _)) ?_; intro x hz _)
                | (refine wpList_load_arr (RC6) rfl _ rfl (w.heap.size) (0) rfl ([.bool ch.cl, .slice e1 ch.sec.length m1, .slice e2 ch.snd.length m2, .slice e3 ch.rcv.length m3, .int .i64 ch.st, .int .i64 ch.rc]) (((hbx.extB (by repeat (first | (with_reducible first | exact Ext.refl _ | assumption | apply Ext.alloc | apply Ext.ext | apply Ext.drew | refine Ext.setCell ?_ ?_ _) | (focus (simp [go_sem]; done))))).rd)) (rfl) ?_)
                | fail)
              obtain ⟨W, hW⟩ : ∃ W, W = y9.ext x := ⟨_, rfl⟩
              rw [← hW] at hz ⊢
              have hx : Ext y9 W := by rw [hW]; exact Ext.of_ext _ _
              have b7 : ChB 24 R5.1 p9 y9.heap.size W := ⟨hz, q9.ext hx⟩
              clear hW hz q9
              (try replace hbx := hbx.extB hx)
              (try replace hc := hc.ext hx)
              (try replace hb := hb.ext hx)
              (try replace hh' := hh'.ext hx)
              (try replace hE := hE.trans hx)
              (try replace b1 := b1.ext hx)
              (try replace b2 := b2.ext hx)
              (try replace b3 := b3.ext hx)
              (try replace b4 := b4.ext hx)
              (try replace b5 := b5.ext hx)
              (try replace b6 := b6.ext hx)
              (try replace b7 := b7.ext hx)
              (try replace b8 := b8.ext hx)
              (try replace s2 := s2.ext hx)
              (try replace s3 := s3.ext hx)
              (try replace s4 := s4.ext hx)
              (try replace s5 := s5.ext hx)
              (try replace s6 := s6.ext hx)
              (try replace s7 := s7.ext hx)
              (try replace s8 := s8.ext hx)
              clear hx
              (with_reducible refine (g5 _ _ hc hb).mono ?_)
              rintro e y10 ⟨v, rfl, hv', hx⟩
              obtain ⟨p10, rfl, q10⟩ := hv'.cells
              clear hv'
              (try replace hbx := hbx.extB hx)
              (try replace hc := hc.ext hx)
              (try replace hb := hb.ext hx)
              (try replace hh' := hh'.ext hx)
              (try replace hE := hE.trans hx)
              (try replace b1 := b1.ext hx)
              (try replace b2 := b2.ext hx)
              (try replace b3 := b3.ext hx)
              (try replace b4 := b4.ext hx)
              (try replace b5 := b5.ext hx)
              (try replace b6 := b6.ext hx)
              (try replace b7 := b7.ext hx)
              (try replace b8 := b8.ext hx)
              (try replace s2 := s2.ext hx)
              (try replace s3 := s3.ext hx)
              (try replace s4 := s4.ext hx)
              (try replace s5 := s5.ext hx)
              (try replace s6 := s6.ext hx)
              (try replace s7 := s7.ext hx)
              (try replace s8 := s8.ext hx)
              clear hx
              go_wp2_with (first
                | (refine wpList_alloc_store (RC6) rfl rfl _ _ rfl rfl rfl rfl (by simp [Act.put]) (chCells R5.1 p10) rfl (by simp) (rfl) ((chCells_one _ _)) ?_; intro x hz _)
                | fail)
              obtain ⟨W, hW⟩ : ∃ W, W = y10.ext x := ⟨_, rfl⟩
              rw [← hW] at hz ⊢
              have hx : Ext y10 W := by rw [hW]; exact Ext.of_ext _ _
              have b8 : ChB 24 R5.1 p10 y10.heap.size W := ⟨hz, q10.ext hx⟩
              clear hW hz q10
              (try replace hbx := hbx.extB hx)
              (try replace hc := hc.ext hx)
              (try replace hb := hb.ext hx)
              (try replace hh' := hh'.ext hx)
              (try replace hE := hE.trans hx)
              (try replace b1 := b1.ext hx)
              (try replace b2 := b2.ext hx)
              (try replace b3 := b3.ext hx)
              (try replace b4 := b4.ext hx)
              (try replace b5 := b5.ext hx)
              (try replace b6 := b6.ext hx)
              (try replace b7 := b7.ext hx)
              (try replace b8 := b8.ext hx)
              (try replace s2 := s2.ext hx)
              (try replace s3 := s3.ext hx)
              (try replace s4 := s4.ext hx)
              (try replace s5 := s5.ext hx)
              (try replace s6 := s6.ext hx)
              (try replace s7 := s7.ext hx)
              (try replace s8 := s8.ext hx)
              clear hx
              haveI := hbx.blt
              have k0 := hbx.cell? 0 rfl
              have k1 := hbx.cell? 1 rfl
              have k2 := hbx.cell? 2 rfl
              have k3 := hbx.cell? 3 rfl
              have k4 := hbx.cell? 4 rfl
              have k5 := hbx.cell? 5 rfl
              (refine wp_region_ext (by kernel_rfl) (by kernel_rfl) ?_; (repeat (go_big_quiet_step ((first | (go_at_call 51; exact Calls.inExt (f6 _ _ (hc.ext (by repeat (first | (with_reducible first | exact Ext.refl _ | assumption | apply Ext.alloc | apply Ext.ext | apply Ext.drew | refine Ext.setCell ?_ ?_ _) | (focus (simp [go_sem]; done))))))) | (go_at_call 67; exact Calls.inExt (g6 _ _ (hc.ext (by repeat (first | (with_reducible first | exact Ext.refl _ | assumption | apply Ext.alloc | apply Ext.ext | apply Ext.drew | refine Ext.setCell ?_ ?_ _) | (focus (simp [go_sem]; done))))))))))); refine wpQuiet_nil ?_; rintro _ ⟨xq, rfl⟩)
              have cs1 := fun u v W h1 h2 => chsame_any u v R1.1 W h1 h2
              have cs2 := fun u v W h1 h2 => chsame_any u v R2.1 W h1 h2
              have cs3 := fun u v W h1 h2 => chsame_any u v R3.1 W h1 h2
              have cs5 := fun u v W h1 h2 => chsame_any u v R5.1 W h1 h2
              have sm2 := fun W h1 h2 => same_any r3 r4 R2.2.1.length d3 R2.2.1.length d4 R2.2.1 R2.2.1 W h1 h2
              have sm3 := fun W h1 h2 => same_any r5 r6 R3.2.2.1.length d5 R3.2.2.1.length d6 R3.2.2.1 R3.2.2.1 W h1 h2
              have sm4 := fun W h1 h2 => same_any r7 r8 R4.1.length d7 R4.1.length d8 R4.1 R4.1 W h1 h2
              simp only [beq_self_eq_true] at sm2 sm3 sm4
              have x1 := b1.q.chr
              have x2 := b2.q.chr
              have x3 := b3.q.chr
              have x4 := b4.q.chr
              have x5 := b5.q.chr
              have x6 := b6.q.chr
              have x7 := b7.q.chr
              have x8 := b8.q.chr
              go_wp2_with (first
                | (go_at_call 25; refine (hkn _).mono ?_; rintro e w1 ⟨rfl, hxq⟩; obtain ⟨xq, rfl⟩ := hxq.out; clear hxq)
                | (go_at_call 26; (with_reducible refine (sm2 ?_ ?hq243 ?hq244).mono ?_); (case hq243 => (repeat' (first | with_reducible assumption | (with_reducible exact zeros16 _) | (with_reducible exact sl_new1 _ _ _) | (with_reducible first | apply Sl.upE | apply Sl.upA | apply Sl.upD)))); (case hq244 => (repeat' (first | with_reducible assumption | (with_reducible exact zeros16 _) | (with_reducible exact sl_new1 _ _ _) | (with_reducible first | apply Sl.upE | apply Sl.upA | apply Sl.upD)))); rintro e w1 ⟨rfl, hxq⟩; obtain ⟨xq, rfl⟩ := hxq.out; clear hxq)
                | (go_at_call 26; (with_reducible refine (sm3 ?_ ?hq245 ?hq246).mono ?_); (case hq245 => (repeat' (first | with_reducible assumption | (with_reducible exact zeros16 _) | (with_reducible exact sl_new1 _ _ _) | (with_reducible first | apply Sl.upE | apply Sl.upA | apply Sl.upD)))); (case hq246 => (repeat' (first | with_reducible assumption | (with_reducible exact zeros16 _) | (with_reducible exact sl_new1 _ _ _) | (with_reducible first | apply Sl.upE | apply Sl.upA | apply Sl.upD)))); rintro e w1 ⟨rfl, hxq⟩; obtain ⟨xq, rfl⟩ := hxq.out; clear hxq)
                | (go_at_call 26; (with_reducible refine (sm4 ?_ ?hq247 ?hq248).mono ?_); (case hq247 => (repeat' (first | with_reducible assumption | (with_reducible exact zeros16 _) | (with_reducible exact sl_new1 _ _ _) | (with_reducible first | apply Sl.upE | apply Sl.upA | apply Sl.upD)))); (case hq248 => (repeat' (first | with_reducible assumption | (with_reducible exact zeros16 _) | (with_reducible exact sl_new1 _ _ _) | (with_reducible first | apply Sl.upE | apply Sl.upA | apply Sl.upD)))); rintro e w1 ⟨rfl, hxq⟩; obtain ⟨xq, rfl⟩ := hxq.out; clear hxq)
                | (go_at_call 27; (with_reducible refine (cs1 ?_ ?_ ?_ ?hq249 ?hq250).mono ?_); (case hq249 => (repeat' (first | with_reducible assumption | (with_reducible first | apply ChR.upE | apply ChR.upA | apply ChR.upD)))); (case hq250 => (repeat' (first | with_reducible assumption | (with_reducible first | apply ChR.upE | apply ChR.upA | apply ChR.upD)))); rintro e w1 ⟨rfl, hxq⟩; obtain ⟨xq, rfl⟩ := hxq.out; clear hxq)
                | (go_at_call 27; (with_reducible refine (cs2 ?_ ?_ ?_ ?hq251 ?hq252).mono ?_); (case hq251 => (repeat' (first | with_reducible assumption | (with_reducible first | apply ChR.upE | apply ChR.upA | apply ChR.upD)))); (case hq252 => (repeat' (first | with_reducible assumption | (with_reducible first | apply ChR.upE | apply ChR.upA | apply ChR.upD)))); rintro e w1 ⟨rfl, hxq⟩; obtain ⟨xq, rfl⟩ := hxq.out; clear hxq)
                | (go_at_call 27; (with_reducible refine (cs3 ?_ ?_ ?_ ?hq253 ?hq254).mono ?_); (case hq253 => (repeat' (first | with_reducible assumption | (with_reducible first | apply ChR.upE | apply ChR.upA | apply ChR.upD)))); (case hq254 => (repeat' (first | with_reducible assumption | (with_reducible first | apply ChR.upE | apply ChR.upA | apply ChR.upD)))); rintro e w1 ⟨rfl, hxq⟩; obtain ⟨xq, rfl⟩ := hxq.out; clear hxq)
                | (go_at_call 27; (with_reducible refine (cs5 ?_ ?_ ?_ ?hq255 ?hq256).mono ?_); (case hq255 => (repeat' (first | with_reducible assumption | (with_reducible first | apply ChR.upE | apply ChR.upA | apply ChR.upD)))); (case hq256 => (repeat' (first | with_reducible assumption | (with_reducible first | apply ChR.upE | apply ChR.upA | apply ChR.upD)))); rintro e w1 ⟨rfl, hxq⟩; obtain ⟨xq, rfl⟩ := hxq.out; clear hxq)
                | (refine wpList_wanted (by simp [Region.wanted, yielded, Act.put]) ?_; (refine wpList_load_arr (RC6) rfl _ rfl (y1.heap.size) (0) rfl (chCells R1.1 p1) (((b1.blk.extB (by repeat (first | (with_reducible first | exact Ext.refl _ | assumption | apply Ext.alloc | apply Ext.ext | apply Ext.drew | refine Ext.setCell ?_ ?_ _) | (focus (simp [go_sem]; done))))).rd)) (rfl) ?_))
                | (refine wpList_wanted (by simp [Region.wanted, yielded, Act.put]) ?_; (refine wpList_load_arr (RC6) rfl _ rfl (y2.heap.size) (0) rfl (chCells R1.1 p2) (((b2.blk.extB (by repeat (first | (with_reducible first | exact Ext.refl _ | assumption | apply Ext.alloc | apply Ext.ext | apply Ext.drew | refine Ext.setCell ?_ ?_ _) | (focus (simp [go_sem]; done))))).rd)) (rfl) ?_))
                | (refine wpList_wanted (by simp [Region.wanted, yielded, Act.put]) ?_; (refine wpList_load_arr (RC6) rfl _ rfl (y3.heap.size) (0) rfl (chCells R2.1 p3) (((b3.blk.extB (by repeat (first | (with_reducible first | exact Ext.refl _ | assumption | apply Ext.alloc | apply Ext.ext | apply Ext.drew | refine Ext.setCell ?_ ?_ _) | (focus (simp [go_sem]; done))))).rd)) (rfl) ?_))
                | (refine wpList_wanted (by simp [Region.wanted, yielded, Act.put]) ?_; (refine wpList_load_arr (RC6) rfl _ rfl (y4.heap.size) (0) rfl (chCells R2.1 p4) (((b4.blk.extB (by repeat (first | (with_reducible first | exact Ext.refl _ | assumption | apply Ext.alloc | apply Ext.ext | apply Ext.drew | refine Ext.setCell ?_ ?_ _) | (focus (simp [go_sem]; done))))).rd)) (rfl) ?_))
                | (refine wpList_wanted (by simp [Region.wanted, yielded, Act.put]) ?_; (refine wpList_load_arr (RC6) rfl _ rfl (y5.heap.size) (0) rfl (chCells R3.1 p5) (((b5.blk.extB (by repeat (first | (with_reducible first | exact Ext.refl _ | assumption | apply Ext.alloc | apply Ext.ext | apply Ext.drew | refine Ext.setCell ?_ ?_ _) | (focus (simp [go_sem]; done))))).rd)) (rfl) ?_))
                | (refine wpList_wanted (by simp [Region.wanted, yielded, Act.put]) ?_; (refine wpList_load_arr (RC6) rfl _ rfl (y6.heap.size) (0) rfl (chCells R3.1 p6) (((b6.blk.extB (by repeat (first | (with_reducible first | exact Ext.refl _ | assumption | apply Ext.alloc | apply Ext.ext | apply Ext.drew | refine Ext.setCell ?_ ?_ _) | (focus (simp [go_sem]; done))))).rd)) (rfl) ?_))
                | (refine wpList_wanted (by simp [Region.wanted, yielded, Act.put]) ?_; (refine wpList_load_arr (RC6) rfl _ rfl (y9.heap.size) (0) rfl (chCells R5.1 p9) (((b7.blk.extB (by repeat (first | (with_reducible first | exact Ext.refl _ | assumption | apply Ext.alloc | apply Ext.ext | apply Ext.drew | refine Ext.setCell ?_ ?_ _) | (focus (simp [go_sem]; done))))).rd)) (rfl) ?_))
                | (refine wpList_wanted (by simp [Region.wanted, yielded, Act.put]) ?_; (refine wpList_load_arr (RC6) rfl _ rfl (y10.heap.size) (0) rfl (chCells R5.1 p10) (((b8.blk.extB (by repeat (first | (with_reducible first | exact Ext.refl _ | assumption | apply Ext.alloc | apply Ext.ext | apply Ext.drew | refine Ext.setCell ?_ ?_ _) | (focus (simp [go_sem]; done))))).rd)) (rfl) ?_))
                | fail)
              go_ret
              exact ⟨rfl, hE.trans (by repeat (first | (with_reducible first | exact Ext.refl _ | assumption | apply Ext.alloc | apply Ext.ext | apply Ext.drew | refine Ext.setCell ?_ ?_ _) | (focus (simp [go_sem]; done))))⟩
            · have hI5 : 100 < n := by omega
              have hI6 : ¬ n ≤ 8160 := by omega
              have f1 := fun W h h' => begin_any cl a2 a3 n2 c2 n3 c3 bb hh W h hBc h' hHc (by omega)
              have g1 := fun W h h' => rbegin_any cl a2 a3 n2 c2 n3 c3 bb hh W h hBc h' hHc (by omega)
              have f2 := fun v W h h' => send_any v ch kind a2 n2 c2 bb W h (by omega) h' hBc
              have g2 := fun v W h h' => rsend_any v ch kind a2 n2 c2 bb W h (by omega) h' hBc
              have f3 := fun v W h h' => recv_any v ch a2 n2 c2 bb W h (by omega) h' hBc (by omega)
              have g3 := fun v W h h' => rrecv_any v ch a2 n2 c2 bb W h (by omega) h' hBc (by omega)
              have f4 := fun v W h h' => export_any v ch lab a3 n3 c3 hh n W h (by omega) h' hHc (by omega) (by omega)
              have g4 := fun v W h h' => rexport_any v ch lab a3 n3 c3 hh n W h (by omega) h' hHc (by omega) (by omega)
              have f5 := fun v W h h' => renew_any v ch a2 n2 c2 bb W h (by omega) h' hBc (by omega)
              have g5 := fun v W h h' => rrenew_any v ch a2 n2 c2 bb W h (by omega) h' hBc (by omega)
              have f6 := fun v W h => valid_any v ch W h (by omega)
              have g6 := fun v W h => rvalid_any v ch W h (by omega)
              generalize beginE cl bb hh = R1 at *
              generalize sendE ch kind bb = R2 at *
              generalize recvE ch bb = R3 at *
              generalize exportE ch lab hh n = R4 at *
              generalize renewE ch bb = R5 at *
              generalize validC ch = R6 at *
              go_enter Try.func11, Try.ntmps11
              go_wp2_with (first
                | (go_at_call 60; (with_reducible refine (hli ?_ ?hq257).mono ?_); (case hq257 => (repeat' (first | with_reducible assumption | (with_reducible first | apply ChR.upE | apply ChR.upA | apply ChR.upD)))); rintro e w1 ⟨rfl, hxq⟩; obtain ⟨xq, rfl⟩ := hxq.out; clear hxq)
                | fail)
              obtain ⟨W, hW⟩ : ∃ W, W = (w.alloc (.cells #[.bool ch.cl, .slice e1 ch.sec.length m1, .slice e2 ch.snd.length m2, .slice e3 ch.rcv.length m3, .int .i64 ch.st, .int .i64 ch.rc] 24)).ext xq := ⟨_, rfl⟩
              have hE : Ext w W := by rw [hW]; exact (by repeat (first | (with_reducible first | exact Ext.refl _ | assumption | apply Ext.alloc | apply Ext.ext | apply Ext.drew | refine Ext.setCell ?_ ?_ _) | (focus (simp [go_sem]; done))))
              have hbx : Blk W w.heap.size 24 [.bool ch.cl, .slice e1 ch.sec.length m1, .slice e2 ch.snd.length m2, .slice e3 ch.rcv.length m3, .int .i64 ch.st, .int .i64 ch.rc] := by rw [hW]; exact (Blk.new w #[.bool ch.cl, .slice e1 ch.sec.length m1, .slice e2 ch.snd.length m2, .slice e3 ch.rcv.length m3, .int .i64 ch.st, .int .i64 ch.rc] 24).ext xq
              have hc := hv.ext hE
              have hb := hB.ext hE
              have hh' := hH.ext hE
              rw [← hW]
              clear hW
              (with_reducible refine (f1 _ hb hh').mono ?_)
              rintro e y1 ⟨v, rfl, hv', hx⟩
              obtain ⟨p1, rfl, q1⟩ := hv'.cells
              clear hv'
              (try replace hbx := hbx.extB hx)
              (try replace hc := hc.ext hx)
              (try replace hb := hb.ext hx)
              (try replace hh' := hh'.ext hx)
              (try replace hE := hE.trans hx)
              (try replace b1 := b1.ext hx)
              (try replace b2 := b2.ext hx)
              (try replace b3 := b3.ext hx)
              (try replace b4 := b4.ext hx)
              (try replace b5 := b5.ext hx)
              (try replace b6 := b6.ext hx)
              (try replace b7 := b7.ext hx)
              (try replace b8 := b8.ext hx)
              (try replace s2 := s2.ext hx)
              (try replace s3 := s3.ext hx)
              (try replace s4 := s4.ext hx)
              (try replace s5 := s5.ext hx)
              (try replace s6 := s6.ext hx)
              (try replace s7 := s7.ext hx)
              (try replace s8 := s8.ext hx)
              clear hx
              go_wp2_with (first
                | (refine wpList_alloc_store (RC6) rfl rfl _ _ rfl rfl rfl rfl (by simp [Act.put]) (chCells R1.1 p1) rfl (by simp) (rfl) ((chCells_one _ _)) ?_; intro x hz _)
                | (refine wpList_load_arr (RC6) rfl _ rfl (w.heap.size) (0) rfl ([.bool ch.cl, .slice e1 ch.sec.length m1, .slice e2 ch.snd.length m2, .slice e3 ch.rcv.length m3, .int .i64 ch.st, .int .i64 ch.rc]) (((hbx.extB (by repeat (first | (with_reducible first | exact Ext.refl _ | assumption | apply Ext.alloc | apply Ext.ext | apply Ext.drew | refine Ext.setCell ?_ ?_ _) | (focus (simp [go_sem]; done))))).rd)) (rfl) ?_)
                | fail)
              obtain ⟨W, hW⟩ : ∃ W, W = y1.ext x := ⟨_, rfl⟩
              rw [← hW] at hz ⊢
              have hx : Ext y1 W := by rw [hW]; exact Ext.of_ext _ _
              have b1 : ChB 24 R1.1 p1 y1.heap.size W := ⟨hz, q1.ext hx⟩
              clear hW hz q1
              (try replace hbx := hbx.extB hx)
              (try replace hc := hc.ext hx)
              (try replace hb := hb.ext hx)
              (try replace hh' := hh'.ext hx)
              (try replace hE := hE.trans hx)
              (try replace b1 := b1.ext hx)
              (try replace b2 := b2.ext hx)
              (try replace b3 := b3.ext hx)
              (try replace b4 := b4.ext hx)
              (try replace b5 := b5.ext hx)
              (try replace b6 := b6.ext hx)
              (try replace b7 := b7.ext hx)
              (try replace b8 := b8.ext hx)
              (try replace s2 := s2.ext hx)
              (try replace s3 := s3.ext hx)
              (try replace s4 := s4.ext hx)
              (try replace s5 := s5.ext hx)
              (try replace s6 := s6.ext hx)
              (try replace s7 := s7.ext hx)
              (try replace s8 := s8.ext hx)
              clear hx
              (with_reducible refine (g1 _ hb hh').mono ?_)
              rintro e y2 ⟨v, rfl, hv', hx⟩
              obtain ⟨p2, rfl, q2⟩ := hv'.cells
              clear hv'
              (try replace hbx := hbx.extB hx)
              (try replace hc := hc.ext hx)
              (try replace hb := hb.ext hx)
              (try replace hh' := hh'.ext hx)
              (try replace hE := hE.trans hx)
              (try replace b1 := b1.ext hx)
              (try replace b2 := b2.ext hx)
              (try replace b3 := b3.ext hx)
              (try replace b4 := b4.ext hx)
              (try replace b5 := b5.ext hx)
              (try replace b6 := b6.ext hx)
              (try replace b7 := b7.ext hx)
              (try replace b8 := b8.ext hx)
              (try replace s2 := s2.ext hx)
              (try replace s3 := s3.ext hx)
              (try replace s4 := s4.ext hx)
              (try replace s5 := s5.ext hx)
              (try replace s6 := s6.ext hx)
              (try replace s7 := s7.ext hx)
              (try replace s8 := s8.ext hx)
              clear hx
              go_wp2_with (first
                | (refine wpList_alloc_store (RC6) rfl rfl _ _ rfl rfl rfl rfl (by simp [Act.put]) (chCells R1.1 p2) rfl (by simp) (rfl) ((chCells_one _ _)) ?_; intro x hz _)
                | (refine wpList_load_arr (RC6) rfl _ rfl (w.heap.size) (0) rfl ([.bool ch.cl, .slice e1 ch.sec.length m1, .slice e2 ch.snd.length m2, .slice e3 ch.rcv.length m3, .int .i64 ch.st, .int .i64 ch.rc]) (((hbx.extB (by repeat (first | (with_reducible first | exact Ext.refl _ | assumption | apply Ext.alloc | apply Ext.ext | apply Ext.drew | refine Ext.setCell ?_ ?_ _) | (focus (simp [go_sem]; done))))).rd)) (rfl) ?_)
                | fail)
              obtain ⟨W, hW⟩ : ∃ W, W = y2.ext x := ⟨_, rfl⟩
              rw [← hW] at hz ⊢
              have hx : Ext y2 W := by rw [hW]; exact Ext.of_ext _ _
              have b2 : ChB 24 R1.1 p2 y2.heap.size W := ⟨hz, q2.ext hx⟩
              clear hW hz q2
              (try replace hbx := hbx.extB hx)
              (try replace hc := hc.ext hx)
              (try replace hb := hb.ext hx)
              (try replace hh' := hh'.ext hx)
              (try replace hE := hE.trans hx)
              (try replace b1 := b1.ext hx)
              (try replace b2 := b2.ext hx)
              (try replace b3 := b3.ext hx)
              (try replace b4 := b4.ext hx)
              (try replace b5 := b5.ext hx)
              (try replace b6 := b6.ext hx)
              (try replace b7 := b7.ext hx)
              (try replace b8 := b8.ext hx)
              (try replace s2 := s2.ext hx)
              (try replace s3 := s3.ext hx)
              (try replace s4 := s4.ext hx)
              (try replace s5 := s5.ext hx)
              (try replace s6 := s6.ext hx)
              (try replace s7 := s7.ext hx)
              (try replace s8 := s8.ext hx)
              clear hx
              (with_reducible refine (f2 _ _ hc hb).mono ?_)
              rintro e y3 ⟨v, r3, d3, rfl, hv', s2, t2, hx⟩
              obtain ⟨p3, rfl, q3⟩ := hv'.cells
              clear hv'
              (try replace hbx := hbx.extB hx)
              (try replace hc := hc.ext hx)
              (try replace hb := hb.ext hx)
              (try replace hh' := hh'.ext hx)
              (try replace hE := hE.trans hx)
              (try replace b1 := b1.ext hx)
              (try replace b2 := b2.ext hx)
              (try replace b3 := b3.ext hx)
              (try replace b4 := b4.ext hx)
              (try replace b5 := b5.ext hx)
              (try replace b6 := b6.ext hx)
              (try replace b7 := b7.ext hx)
              (try replace b8 := b8.ext hx)
              (try replace s2 := s2.ext hx)
              (try replace s3 := s3.ext hx)
              (try replace s4 := s4.ext hx)
              (try replace s5 := s5.ext hx)
              (try replace s6 := s6.ext hx)
              (try replace s7 := s7.ext hx)
              (try replace s8 := s8.ext hx)
              clear hx
              go_wp2_with (first
                | (refine wpList_alloc_store (RC6) rfl rfl _ _ rfl rfl rfl rfl (by simp [Act.put]) (chCells R2.1 p3) rfl (by simp) (rfl) ((chCells_one _ _)) ?_; intro x hz _)
                | (refine wpList_load_arr (RC6) rfl _ rfl (w.heap.size) (0) rfl ([.bool ch.cl, .slice e1 ch.sec.length m1, .slice e2 ch.snd.length m2, .slice e3 ch.rcv.length m3, .int .i64 ch.st, .int .i64 ch.rc]) (((hbx.extB (by repeat (first | (with_reducible first | exact Ext.refl _ | assumption | apply Ext.alloc | apply Ext.ext | apply Ext.drew | refine Ext.setCell ?_ ?_ _) | (focus (simp [go_sem]; done))))).rd)) (rfl) ?_)
                | fail)
              obtain ⟨W, hW⟩ : ∃ W, W = y3.ext x := ⟨_, rfl⟩
              rw [← hW] at hz ⊢
              have hx : Ext y3 W := by rw [hW]; exact Ext.of_ext _ _
              have b3 : ChB 24 R2.1 p3 y3.heap.size W := ⟨hz, q3.ext hx⟩
              clear hW hz q3
              (try replace hbx := hbx.extB hx)
              (try replace hc := hc.ext hx)
              (try replace hb := hb.ext hx)
              (try replace hh' := hh'.ext hx)
              (try replace hE := hE.trans hx)
              (try replace b1 := b1.ext hx)
              (try replace b2 := b2.ext hx)
              (try replace b3 := b3.ext hx)
              (try replace b4 := b4.ext hx)
              (try replace b5 := b5.ext hx)
              (try replace b6 := b6.ext hx)
              (try replace b7 := b7.ext hx)
              (try replace b8 := b8.ext hx)
              (try replace s2 := s2.ext hx)
              (try replace s3 := s3.ext hx)
              (try replace s4 := s4.ext hx)
              (try replace s5 := s5.ext hx)
              (try replace s6 := s6.ext hx)
              (try replace s7 := s7.ext hx)
              (try replace s8 := s8.ext hx)
              clear hx
              (with_reducible refine (g2 _ _ hc hb).mono ?_)
              rintro e y4 ⟨v, r4, d4, rfl, hv', s3, t3, hx⟩
              obtain ⟨p4, rfl, q4⟩ := hv'.cells
              clear hv'
              (try replace hbx := hbx.extB hx)
              (try replace hc := hc.ext hx)
              (try replace hb := hb.ext hx)
              (try replace hh' := hh'.ext hx)
              (try replace hE := hE.trans hx)
              (try replace b1 := b1.ext hx)
              (try replace b2 := b2.ext hx)
              (try replace b3 := b3.ext hx)
              (try replace b4 := b4.ext hx)
              (try replace b5 := b5.ext hx)
              (try replace b6 := b6.ext hx)
              (try replace b7 := b7.ext hx)
              (try replace b8 := b8.ext hx)
              (try replace s2 := s2.ext hx)
              (try replace s3 := s3.ext hx)
              (try replace s4 := s4.ext hx)
              (try replace s5 := s5.ext hx)
              (try replace s6 := s6.ext hx)
              (try replace s7 := s7.ext hx)
              (try replace s8 := s8.ext hx)
              clear hx
              go_wp2_with (first
                | (refine wpList_alloc_store (RC6) rfl rfl _ _ rfl rfl rfl rfl (by simp [Act.put]) (chCells R2.1 p4) rfl (by simp) (rfl) ((chCells_one _ _)) ?_; intro x hz _)
                | (refine wpList_load_arr (RC6) rfl _ rfl (w.heap.size) (0) rfl ([.bool ch.cl, .slice e1 ch.sec.length m1, .slice e2 ch.snd.length m2, .slice e3 ch.rcv.length m3, .int .i64 ch.st, .int .i64 ch.rc]) (((hbx.extB (by repeat (first | (with_reducible first | exact Ext.refl _ | assumption | apply Ext.alloc | apply Ext.ext | apply Ext.drew | refine Ext.setCell ?_ ?_ _) | (focus (simp [go_sem]; done))))).rd)) (rfl) ?_)
                | fail)
              obtain ⟨W, hW⟩ : ∃ W, W = y4.ext x := ⟨_, rfl⟩
              rw [← hW] at hz ⊢
              have hx : Ext y4 W := by rw [hW]; exact Ext.of_ext _ _
              have b4 : ChB 24 R2.1 p4 y4.heap.size W := ⟨hz, q4.ext hx⟩
              clear hW hz q4
              (try replace hbx := hbx.extB hx)
              (try replace hc := hc.ext hx)
              (try replace hb := hb.ext hx)
              (try replace hh' := hh'.ext hx)
              (try replace hE := hE.trans hx)
              (try replace b1 := b1.ext hx)
              (try replace b2 := b2.ext hx)
              (try replace b3 := b3.ext hx)
              (try replace b4 := b4.ext hx)
              (try replace b5 := b5.ext hx)
              (try replace b6 := b6.ext hx)
              (try replace b7 := b7.ext hx)
              (try replace b8 := b8.ext hx)
              (try replace s2 := s2.ext hx)
              (try replace s3 := s3.ext hx)
              (try replace s4 := s4.ext hx)
              (try replace s5 := s5.ext hx)
              (try replace s6 := s6.ext hx)
              (try replace s7 := s7.ext hx)
              (try replace s8 := s8.ext hx)
              clear hx
              (with_reducible refine (f3 _ _ hc hb).mono ?_)
              rintro e y5 ⟨v, r5, d5, rfl, hv', s4, t4, hx⟩
              obtain ⟨p5, rfl, q5⟩ := hv'.cells
              clear hv'
              (try replace hbx := hbx.extB hx)
              (try replace hc := hc.ext hx)
              (try replace hb := hb.ext hx)
              (try replace hh' := hh'.ext hx)
              (try replace hE := hE.trans hx)
              (try replace b1 := b1.ext hx)
              (try replace b2 := b2.ext hx)
              (try replace b3 := b3.ext hx)
              (try replace b4 := b4.ext hx)
              (try replace b5 := b5.ext hx)
              (try replace b6 := b6.ext hx)
              (try replace b7 := b7.ext hx)
              (try replace b8 := b8.ext hx)
              (try replace s2 := s2.ext hx)
              (try replace s3 := s3.ext hx)
              (try replace s4 := s4.ext hx)
              (try replace s5 := s5.ext hx)
              (try replace s6 := s6.ext hx)
              (try replace s7 := s7.ext hx)
              (try replace s8 := s8.ext hx)
              clear hx
              go_wp2_with (first
                | (refine wpList_alloc_store (RC6) rfl rfl _ _ rfl rfl rfl rfl (by simp [Act.put]) (chCells R3.1 p5) rfl (by simp) (rfl) ((chCells_one _ _)) ?_; intro x hz _)
                | (refine wpList_load_arr (RC6) rfl _ rfl (w.heap.size) (0) rfl ([.bool ch.cl, .slice e1 ch.sec.length m1, .slice e2 ch.snd.length m2, .slice e3 ch.rcv.length m3, .int .i64 ch.st, .int .i64 ch.rc]) (((hbx.extB (by repeat (first | (with_reducible first | exact Ext.refl _ | assumption | apply Ext.alloc | apply Ext.ext | apply Ext.drew | refine Ext.setCell ?_ ?_ _) | (focus (simp [go_sem]; done))))).rd)) (rfl) ?_)
                | fail)
              obtain ⟨W, hW⟩ : ∃ W, W = y5.ext x := ⟨_, rfl⟩
              rw [← hW] at hz ⊢
              have hx : Ext y5 W := by rw [hW]; exact Ext.of_ext _ _
              have b5 : ChB 24 R3.1 p5 y5.heap.size W := ⟨hz, q5.ext hx⟩
              clear hW hz q5
              (try replace hbx := hbx.extB hx)
              (try replace hc := hc.ext hx)
              (try replace hb := hb.ext hx)
              (try replace hh' := hh'.ext hx)
              (try replace hE := hE.trans hx)
              (try replace b1 := b1.ext hx)
              (try replace b2 := b2.ext hx)
              (try replace b3 := b3.ext hx)
              (try replace b4 := b4.ext hx)
              (try replace b5 := b5.ext hx)
              (try replace b6 := b6.ext hx)
              (try replace b7 := b7.ext hx)
              (try replace b8 := b8.ext hx)
              (try replace s2 := s2.ext hx)
              (try replace s3 := s3.ext hx)
              (try replace s4 := s4.ext hx)
              (try replace s5 := s5.ext hx)
              (try replace s6 := s6.ext hx)
              (try replace s7 := s7.ext hx)
              (try replace s8 := s8.ext hx)
              clear hx
              (with_reducible refine (g3 _ _ hc hb).mono ?_)
              rintro e y6 ⟨v, r6, d6, rfl, hv', s5, t5, hx⟩
              obtain ⟨p6, rfl, q6⟩ := hv'.cells
              clear hv'
              (try replace hbx := hbx.extB hx)
              (try replace hc := hc.ext hx)
              (try replace hb := hb.ext hx)
              (try replace hh' := hh'.ext hx)
              (try replace hE := hE.trans hx)
              (try replace b1 := b1.ext hx)
              (try replace b2 := b2.ext hx)
              (try replace b3 := b3.ext hx)
              (try replace b4 := b4.ext hx)
              (try replace b5 := b5.ext hx)
              (try replace b6 := b6.ext hx)
              (try replace b7 := b7.ext hx)
              (try replace b8 := b8.ext hx)
              (try replace s2 := s2.ext hx)
              (try replace s3 := s3.ext hx)
              (try replace s4 := s4.ext hx)
              (try replace s5 := s5.ext hx)
              (try replace s6 := s6.ext hx)
              (try replace s7 := s7.ext hx)
              (try replace s8 := s8.ext hx)
              clear hx
              go_wp2_with (first
                | (refine wpList_alloc_store (RC6) rfl rfl _ _ rfl rfl rfl rfl (by simp [Act.put]) (chCells R3.1 p6) rfl (by simp) (rfl) ((chCells_one _ _)) ?_; intro x hz _)
                | (refine wpList_load_arr (RC6) rfl _ rfl (w.heap.size) (0) rfl ([.bool ch.cl, .slice e1 ch.sec.length m1, .slice e2 ch.snd.length m2, .slice e3 ch.rcv.length m3, .int .i64 ch.st, .int .i64 ch.rc]) (((hbx.extB (by repeat (first | (with_reducible first | exact Ext.refl _ | assumption | apply Ext.alloc | apply Ext.ext | apply Ext.drew | refine Ext.setCell ?_ ?_ _) | (focus (simp [go_sem]; done))))).rd)) (rfl) ?_)
                | fail)
              obtain ⟨W, hW⟩ : ∃ W, W = y6.ext x := ⟨_, rfl⟩
              rw [← hW] at hz ⊢
              have hx : Ext y6 W := by rw [hW]; exact Ext.of_ext _ _
              have b6 : ChB 24 R3.1 p6 y6.heap.size W := ⟨hz, q6.ext hx⟩
              clear hW hz q6
              (try replace hbx := hbx.extB hx)
              (try replace hc := hc.ext hx)
              (try replace hb := hb.ext hx)
              (try replace hh' := hh'.ext hx)
              (try replace hE := hE.trans hx)
              (try replace b1 := b1.ext hx)
              (try replace b2 := b2.ext hx)
              (try replace b3 := b3.ext hx)
              (try replace b4 := b4.ext hx)
              (try replace b5 := b5.ext hx)
              (try replace b6 := b6.ext hx)
              (try replace b7 := b7.ext hx)
              (try replace b8 := b8.ext hx)
              (try replace s2 := s2.ext hx)
              (try replace s3 := s3.ext hx)
              (try replace s4 := s4.ext hx)
              (try replace s5 := s5.ext hx)
              (try replace s6 := s6.ext hx)
              (try replace s7 := s7.ext hx)
              (try replace s8 := s8.ext hx)
              clear hx
              (with_reducible refine (f4 _ _ hc hh').mono ?_)
              rintro e y7 ⟨r7, d7, rfl, s7, t7, hx⟩
              (try replace hbx := hbx.extB hx)
              (try replace hc := hc.ext hx)
              (try replace hb := hb.ext hx)
              (try replace hh' := hh'.ext hx)
              (try replace hE := hE.trans hx)
              (try replace b1 := b1.ext hx)
              (try replace b2 := b2.ext hx)
              (try replace b3 := b3.ext hx)
              (try replace b4 := b4.ext hx)
              (try replace b5 := b5.ext hx)
              (try replace b6 := b6.ext hx)
              (try replace b7 := b7.ext hx)
              (try replace b8 := b8.ext hx)
              (try replace s2 := s2.ext hx)
              (try replace s3 := s3.ext hx)
              (try replace s4 := s4.ext hx)
              (try replace s5 := s5.ext hx)
              (try replace s6 := s6.ext hx)
              (try replace s7 := s7.ext hx)
              (try replace s8 := s8.ext hx)
              clear hx
              go_wp2_with (first
                | (refine wpList_load_arr (RC6) rfl _ rfl (w.heap.size) (0) rfl ([.bool ch.cl, .slice e1 ch.sec.length m1, .slice e2 ch.snd.length m2, .slice e3 ch.rcv.length m3, .int .i64 ch.st, .int .i64 ch.rc]) ((hbx.rd)) (rfl) ?_)
                | fail)
              (with_reducible refine (g4 _ _ hc hh').mono ?_)
              rintro e y8 ⟨r8, d8, rfl, s8, t8, hx⟩
              (try replace hbx := hbx.extB hx)
              (try replace hc := hc.ext hx)
              (try replace hb := hb.ext hx)
              (try replace hh' := hh'.ext hx)
              (try replace hE := hE.trans hx)
              (try replace b1 := b1.ext hx)
              (try replace b2 := b2.ext hx)
              (try replace b3 := b3.ext hx)
              (try replace b4 := b4.ext hx)
              (try replace b5 := b5.ext hx)
              (try replace b6 := b6.ext hx)
              (try replace b7 := b7.ext hx)
              (try replace b8 := b8.ext hx)
              (try replace s2 := s2.ext hx)
              (try replace s3 := s3.ext hx)
              (try replace s4 := s4.ext hx)
              (try replace s5 := s5.ext hx)
              (try replace s6 := s6.ext hx)
              (try replace s7 := s7.ext hx)
              (try replace s8 := s8.ext hx)
              clear hx
              go_wp2_with (first
                | (refine wpList_load_arr (RC6) rfl _ rfl (w.heap.size) (0) rfl ([.bool ch.cl, .slice e1 ch.sec.length m1, .slice e2 ch.snd.length m2, .slice e3 ch.rcv.length m3, .int .i64 ch.st, .int .i64 ch.rc]) ((hbx.rd)) (rfl) ?_)
                | fail)
              (with_reducible refine (f5 _ _ hc hb).mono ?_)
              rintro e y9 ⟨v, rfl, hv', hx⟩
              obtain ⟨p9, rfl, q9⟩ := hv'.cells
              clear hv'
              (try replace hbx := hbx.extB hx)
              (try replace hc := hc.ext hx)
              (try replace hb := hb.ext hx)
              (try replace hh' := hh'.ext hx)
              (try replace hE := hE.trans hx)
              (try replace b1 := b1.ext hx)
              (try replace b2 := b2.ext hx)
              (try replace b3 := b3.ext hx)
              (try replace b4 := b4.ext hx)
              (try replace b5 := b5.ext hx)
              (try replace b6 := b6.ext hx)
              (try replace b7 := b7.ext hx)
              (try replace b8 := b8.ext hx)
              (try replace s2 := s2.ext hx)
              (try replace s3 := s3.ext hx)
              (try replace s4 := s4.ext hx)
              (try replace s5 := s5.ext hx)
              (try replace s6 := s6.ext hx)
              (try replace s7 := s7.ext hx)
              (try replace s8 := s8.ext hx)
              clear hx
              go_wp2_with (first
                | (refine wpList_alloc_store (RC6) rfl rfl _ _ rfl rfl rfl rfl (by simp [Act.put]) (chCells R5.1 p9) rfl (by simp) (rfl) ((chCells_one _ _)) ?_; intro x hz _)
                | (refine wpList_load_arr (RC6) rfl _ rfl (w.heap.size) (0) rfl ([.bool ch.cl, .slice e1 ch.sec.length m1, .slice e2 ch.snd.length m2, .slice e3 ch.rcv.length m3, .int .i64 ch.st, .int .i64 ch.rc]) (((hbx.extB (by repeat (first | (with_reducible first | exact Ext.refl _ | assumption | apply Ext.alloc | apply Ext.ext | apply Ext.drew | refine Ext.setCell ?_ ?_ _) | (focus (simp [go_sem]; done))))).rd)) (rfl) ?_)
                | fail)
              obtain ⟨W, hW⟩ : ∃ W, W = y9.ext x := ⟨_, rfl⟩
              rw [← hW] at hz ⊢
              have hx : Ext y9 W := by rw [hW]; exact Ext.of_ext _ _
              have b7 : ChB 24 R5.1 p9 y9.heap.size W := ⟨hz, q9.ext hx⟩
              clear hW hz q9
              (try replace hbx := hbx.extB hx)
              (try replace hc := hc.ext hx)
              (try replace hb := hb.ext hx)
              (try replace hh' := hh'.ext hx)
              (try replace hE := hE.trans hx)
              (try replace b1 := b1.ext hx)
              (try replace b2 := b2.ext hx)
              (try replace b3 := b3.ext hx)
              (try replace b4 := b4.ext hx)
              (try replace b5 := b5.ext hx)
              (try replace b6 := b6.ext hx)
              (try replace b7 := b7.ext hx)
              (try replace b8 := b8.ext hx)
              (try replace s2 := s2.ext hx)
              (try replace s3 := s3.ext hx)
              (try replace s4 := s4.ext hx)
              (try replace s5 := s5.ext hx)
              (try replace s6 := s6.ext hx)
              (try replace s7 := s7.ext hx)
              (try replace s8 := s8.ext hx)
              clear hx
              (with_reducible refine (g5 _ _ hc hb).mono ?_)
              rintro e y10 ⟨v, rfl, hv', hx⟩
              obtain ⟨p10, rfl, q10⟩ := hv'.cells
              clear hv'
              (try replace hbx := hbx.extB hx)
              (try replace hc := hc.ext hx)
              (try replace hb := hb.ext hx)
              (try replace hh' := hh'.ext hx)
              (try replace hE := hE.trans hx)
              (try replace b1 := b1.ext hx)
              (try replace b2 := b2.ext hx)
              (try replace b3 := b3.ext hx)
              (try replace b4 := b4.ext hx)
              (try replace b5 := b5.ext hx)
              (try replace b6 := b6.ext hx)
              (try replace b7 := b7.ext hx)
              (try replace b8 := b8.ext hx)
              (try replace s2 := s2.ext hx)
              (try replace s3 := s3.ext hx)
              (try replace s4 := s4.ext hx)
              (try replace s5 := s5.ext hx)
              (try replace s6 := s6.ext hx)
              (try replace s7 := s7.ext hx)
              (try replace s8 := s8.ext hx)
              clear hx
              go_wp2_with (first
                | (refine wpList_alloc_store (RC6) rfl rfl _ _ rfl rfl rfl rfl (by simp [Act.put]) (chCells R5.1 p10) rfl (by simp) (rfl) ((chCells_one _ _)) ?_; intro x hz _)
                | fail)
              obtain ⟨W, hW⟩ : ∃ W, W = y10.ext x := ⟨_, rfl⟩
              rw [← hW] at hz ⊢
              have hx : Ext y10 W := by rw [hW]; exact Ext.of_ext _ _
              have b8 : ChB 24 R5.1 p10 y10.heap.size W := ⟨hz, q10.ext hx⟩
              clear hW hz q10
              (try replace hbx := hbx.extB hx)
              (try replace hc := hc.ext hx)
              (try replace hb := hb.ext hx)
              (try replace hh' := hh'.ext hx)
              (try replace hE := hE.trans hx)
              (try replace b1 := b1.ext hx)
              (try replace b2 := b2.ext hx)
              (try replace b3 := b3.ext hx)
              (try replace b4 := b4.ext hx)
              (try replace b5 := b5.ext hx)
              (try replace b6 := b6.ext hx)
              (try replace b7 := b7.ext hx)
              (try replace b8 := b8.ext hx)
              (try replace s2 := s2.ext hx)
              (try replace s3 := s3.ext hx)
              (try replace s4 := s4.ext hx)
              (try replace s5 := s5.ext hx)
              (try replace s6 := s6.ext hx)
              (try replace s7 := s7.ext hx)
              (try replace s8 := s8.ext hx)
              clear hx
              haveI := hbx.blt
              have k0 := hbx.cell? 0 rfl
              have k1 := hbx.cell? 1 rfl
              have k2 := hbx.cell? 2 rfl
              have k3 := hbx.cell? 3 rfl
              have k4 := hbx.cell? 4 rfl
              have k5 := hbx.cell? 5 rfl
              (refine wp_region_ext (by kernel_rfl) (by kernel_rfl) ?_; (repeat (go_big_quiet_step ((first | (go_at_call 51; exact Calls.inExt (f6 _ _ (hc.ext (by repeat (first | (with_reducible first | exact Ext.refl _ | assumption | apply Ext.alloc | apply Ext.ext | apply Ext.drew | refine Ext.setCell ?_ ?_ _) | (focus (simp [go_sem]; done))))))) | (go_at_call 67; exact Calls.inExt (g6 _ _ (hc.ext (by repeat (first | (with_reducible first | exact Ext.refl _ | assumption | apply Ext.alloc | apply Ext.ext | apply Ext.drew | refine Ext.setCell ?_ ?_ _) | (focus (simp [go_sem]; done))))))))))); refine wpQuiet_nil ?_; rintro _ ⟨xq, rfl⟩)
              have cs1 := fun u v W h1 h2 => chsame_any u v R1.1 W h1 h2
              have cs2 := fun u v W h1 h2 => chsame_any u v R2.1 W h1 h2
              have cs3 := fun u v W h1 h2 => chsame_any u v R3.1 W h1 h2
              have cs5 := fun u v W h1 h2 => chsame_any u v R5.1 W h1 h2
              have sm2 := fun W h1 h2 => same_any r3 r4 R2.2.1.length d3 R2.2.1.length d4 R2.2.1 R2.2.1 W h1 h2
              have sm3 := fun W h1 h2 => same_any r5 r6 R3.2.2.1.length d5 R3.2.2.1.length d6 R3.2.2.1 R3.2.2.1 W h1 h2
              have sm4 := fun W h1 h2 => same_any r7 r8 R4.1.length d7 R4.1.length d8 R4.1 R4.1 W h1 h2
              simp only [beq_self_eq_true] at sm2 sm3 sm4
              have x1 := b1.q.chr
              have x2 := b2.q.chr
              have x3 := b3.q.chr
              have x4 := b4.q.chr
              have x5 := b5.q.chr
              have x6 := b6.q.chr
              have x7 := b7.q.chr
              have x8 := b8.q.chr
              go_wp2_with (first
                | (go_at_call 25; refine (hkn _).mono ?_; rintro e w1 ⟨rfl, hxq⟩; obtain ⟨xq, rfl⟩ := hxq.out; clear hxq)
                | (go_at_call 26; (with_reducible refine (sm2 ?_ ?hq258 ?hq259).mono ?_); (case hq258 => (repeat' (first | with_reducible assumption | (with_reducible exact zeros16 _) | (with_reducible exact sl_new1 _ _ _) | (with_reducible first | apply Sl.upE | apply Sl.upA | apply Sl.upD)))); (case hq259 => (repeat' (first | with_reducible assumption | (with_reducible exact zeros16 _) | (with_reducible exact sl_new1 _ _ _) | (with_reducible first | apply Sl.upE | apply Sl.upA | apply Sl.upD)))); rintro e w1 ⟨rfl, hxq⟩; obtain ⟨xq, rfl⟩ := hxq.out; clear hxq)
                | (go_at_call 26; (with_reducible refine (sm3 ?_ ?hq260 ?hq261).mono ?_); (case hq260 => (repeat' (first | with_reducible assumption | (with_reducible exact zeros16 _) | (with_reducible exact sl_new1 _ _ _) | (with_reducible first | apply Sl.upE | apply Sl.upA | apply Sl.upD)))); (case hq261 => (repeat' (first | with_reducible assumption | (with_reducible exact zeros16 _) | (with_reducible exact sl_new1 _ _ _) | (with_reducible first | apply Sl.upE | apply Sl.upA | apply Sl.upD)))); rintro e w1 ⟨rfl, hxq⟩; obtain ⟨xq, rfl⟩ := hxq.out; clear hxq)
                | (go_at_call 26; (with_reducible refine (sm4 ?_ ?hq262 ?hq263).mono ?_); (case hq262 => (repeat' (first | with_reducible assumption | (with_reducible exact zeros16 _) | (with_reducible exact sl_new1 _ _ _) | (with_reducible first | apply Sl.upE | apply Sl.upA | apply Sl.upD)))); (case hq263 => (repeat' (first | with_reducible assumption | (with_reducible exact zeros16 _) | (with_reducible exact sl_new1 _ _ _) | (with_reducible first | apply Sl.upE | apply Sl.upA | apply Sl.upD)))); rintro e w1 ⟨rfl, hxq⟩; obtain ⟨xq, rfl⟩ := hxq.out; clear hxq)
                | (go_at_call 27; (with_reducible refine (cs1 ?_ ?_ ?_ ?hq264 ?hq265).mono ?_); (case hq264 => (repeat' (first | with_reducible assumption | (with_reducible first | apply ChR.upE | apply ChR.upA | apply ChR.upD)))); (case hq265 => (repeat' (first | with_reducible assumption | (with_reducible first | apply ChR.upE | apply ChR.upA | apply ChR.upD)))); rintro e w1 ⟨rfl, hxq⟩; obtain ⟨xq, rfl⟩ := hxq.out; clear hxq)
                | (go_at_call 27; (with_reducible refine (cs2 ?_ ?_ ?_ ?hq266 ?hq267).mono ?_); (case hq266 => (repeat' (first | with_reducible assumption | (with_reducible first | apply ChR.upE | apply ChR.upA | apply ChR.upD)))); (case hq267 => (repeat' (first | with_reducible assumption | (with_reducible first | apply ChR.upE | apply ChR.upA | apply ChR.upD)))); rintro e w1 ⟨rfl, hxq⟩; obtain ⟨xq, rfl⟩ := hxq.out; clear hxq)
                | (go_at_call 27; (with_reducible refine (cs3 ?_ ?_ ?_ ?hq268 ?hq269).mono ?_); (case hq268 => (repeat' (first | with_reducible assumption | (with_reducible first | apply ChR.upE | apply ChR.upA | apply ChR.upD)))); (case hq269 => (repeat' (first | with_reducible assumption | (with_reducible first | apply ChR.upE | apply ChR.upA | apply ChR.upD)))); rintro e w1 ⟨rfl, hxq⟩; obtain ⟨xq, rfl⟩ := hxq.out; clear hxq)
                | (go_at_call 27; (with_reducible refine (cs5 ?_ ?_ ?_ ?hq270 ?hq271).mono ?_); (case hq270 => (repeat' (first | with_reducible assumption | (with_reducible first | apply ChR.upE | apply ChR.upA | apply ChR.upD)))); (case hq271 => (repeat' (first | with_reducible assumption | (with_reducible first | apply ChR.upE | apply ChR.upA | apply ChR.upD)))); rintro e w1 ⟨rfl, hxq⟩; obtain ⟨xq, rfl⟩ := hxq.out; clear hxq)
                | (refine wpList_wanted (by simp [Region.wanted, yielded, Act.put]) ?_; (refine wpList_load_arr (RC6) rfl _ rfl (y1.heap.size) (0) rfl (chCells R1.1 p1) (((b1.blk.extB (by repeat (first | (with_reducible first | exact Ext.refl _ | assumption | apply Ext.alloc | apply Ext.ext | apply Ext.drew | refine Ext.setCell ?_ ?_ _) | (focus (simp [go_sem]; done))))).rd)) (rfl) ?_))
                | (refine wpList_wanted (by simp [Region.wanted, yielded, Act.put]) ?_; (refine wpList_load_arr (RC6) rfl _ rfl (y2.heap.size) (0) rfl (chCells R1.1 p2) (((b2.blk.extB (by repeat (first | (with_reducible first | exact Ext.refl _ | assumption | apply Ext.alloc | apply Ext.ext | apply Ext.drew | refine Ext.setCell ?_ ?_ _) | (focus (simp [go_sem]; done))))).rd)) (rfl) ?_))
                | (refine wpList_wanted (by simp [Region.wanted, yielded, Act.put]) ?_; (refine wpList_load_arr (RC6) rfl _ rfl (y3.heap.size) (0) rfl (chCells R2.1 p3) (((b3.blk.extB (by repeat (first | (with_reducible first | exact Ext.refl _ | assumption | apply Ext.alloc | apply Ext.ext | apply Ext.drew | refine Ext.setCell ?_ ?_ _) | (focus (simp [go_sem]; done))))).rd)) (rfl) ?_))
                | (refine wpList_wanted (by simp [Region.wanted, yielded, Act.put]) ?_; (refine wpList_load_arr (RC6) rfl _ rfl (y4.heap.size) (0) rfl (chCells R2.1 p4) (((b4.blk.extB (by repeat (first | (with_reducible first | exact Ext.refl _ | assumption | apply Ext.alloc | apply Ext.ext | apply Ext.drew | refine Ext.setCell ?_ ?_ _) | (focus (simp [go_sem]; done))))).rd)) (rfl) ?_))
                | (refine wpList_wanted (by simp [Region.wanted, yielded, Act.put]) ?_; (refine wpList_load_arr (RC6) rfl _ rfl (y5.heap.size) (0) rfl (chCells R3.1 p5) (((b5.blk.extB (by repeat (first | (with_reducible first | exact Ext.refl _ | assumption | apply Ext.alloc | apply Ext.ext | apply Ext.drew | refine Ext.setCell ?_ ?_ _) | (focus (simp [go_sem]; done))))).rd)) (rfl) ?_))
                | (refine wpList_wanted (by simp [Region.wanted, yielded, Act.put]) ?_; (refine wpList_load_arr (RC6) rfl _ rfl (y6.heap.size) (0) rfl (chCells R3.1 p6) (((b6.blk.extB (by repeat (first | (with_reducible first | exact Ext.refl _ | assumption | apply Ext.alloc | apply Ext.ext | apply Ext.drew | refine Ext.setCell ?_ ?_ _) | (focus (simp [go_sem]; done))))).rd)) (rfl) ?_))
                | (refine wpList_wanted (by simp [Region.wanted, yielded, Act.put]) ?_; (refine wpList_load_arr (RC6) rfl _ rfl (y9.heap.size) (0) rfl (chCells R5.1 p9) (((b7.blk.extB (by repeat (first | (with_reducible first | exact Ext.refl _ | assumption | apply Ext.alloc | apply Ext.ext | apply Ext.drew | refine Ext.setCell ?_ ?_ _) | (focus (simp [go_sem]; done))))).rd)) (rfl) ?_))
                | (refine wpList_wanted (by simp [Region.wanted, yielded, Act.put]) ?_; (refine wpList_load_arr (RC6) rfl _ rfl (y10.heap.size) (0) rfl (chCells R5.1 p10) (((b8.blk.extB (by repeat (first | (with_reducible first | exact Ext.refl _ | assumption | apply Ext.alloc | apply Ext.ext | apply Ext.drew | refine Ext.setCell ?_ ?_ _) | (focus (simp [go_sem]; done))))).rd)) (rfl) ?_))
                | fail)
              go_ret
              exact ⟨rfl, hE.trans (by repeat (first | (with_reducible first | exact Ext.refl _ | assumption | apply Ext.alloc | apply Ext.ext | apply Ext.drew | refine Ext.setCell ?_ ?_ _) | (focus (simp [go_sem]; done))))⟩
end Go.Proofs.Ytkjdlbjbppbmdaa
