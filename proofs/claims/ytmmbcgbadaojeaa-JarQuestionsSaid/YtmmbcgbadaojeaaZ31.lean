/- Lemmas of this claim, several texts joined. -/
import Derived.Test.YtmmbcgbadaojeaaZ6
import Derived.Test.YtmmbcgbadaojeaaZ9
import Derived.Test.YtmmbcgbadaojeaaZ11
import Derived.Test.YtmmbcgbadaojeaaZ24
import Derived.Test.YtmmbcgbadaojeaaZ28
import Derived.Test.YtmmbcgbadaojeaaZ29
set_option linter.unusedVariables false
set_option linter.unusedSimpArgs false
/- The walks of layer 18: Open. -/
namespace Go.Pkt
open Go.Oct Go.Aes
theorem decH_ok {b : List UInt8} (h : (decH b).2 = 0) : 48 ≤ b.length ∧ b.length ≤ 1280 ∧ (decH b).1.2 = b.drop 48 := by
  unfold decH at h ⊢
  split at h
  · cases h
  · split at h
    · cases h
    · split at h
      · rename_i h1 h2 h3
        rw [if_neg h1, if_neg h2, if_pos h3]
        exact ⟨by omega, by omega, rfl⟩
      · cases h
theorem decF_ok {l : List UInt8} (h : (decF l).2 = 0) : totN (decF l).1 = l.length ∧ (decF l).1.length ≤ 24 ∧ ∀ f ∈ (decF l).1, f.2.length % 4 = 0 ∧ 12 ≤ f.2.length ∧ 0 ≤ f.1 ∧ f.1 ≤ 65535 := by
  unfold decF at h ⊢
  split at h
  · cases h
  · rename_i h1
    rw [if_neg h1]
    exact decR_ok 24 l h
theorem totN_mem {L : List Fld} {f : Fld} (h : f ∈ L) : szN f.2.length ≤ totN L := by
  induction L with
  | nil => cases h
  | cons g L ih =>
    rw [totN_cons]
    rcases List.mem_cons.1 h with rfl | h
    · omega
    · have := ih h; omega
/-- What a packet that was read is like. -/
theorem readE_spec {b : List UInt8} (h : (readE b).2 = 0) : 48 ≤ b.length ∧ b.length ≤ 1280 ∧ totN (readE b).1.plain + 48 = b.length ∧ (readE b).1.plain.length ≤ 24 ∧
    ∀ f ∈ (readE b).1.plain, f.2.length % 4 = 0 ∧ 12 ≤ f.2.length ∧ 0 ≤ f.1 ∧ f.1 ≤ 65535 := by
  by_cases h1 : (decH b).2 = 0
  · by_cases h2 : (decF (decH b).1.2).2 = 0
    · obtain ⟨a1, a2, a3⟩ := decH_ok h1
      obtain ⟨b1, b2, b3⟩ := decF_ok h2
      rw [readE_ok h1 h2]
      refine ⟨a1, a2, ?_, b2, b3⟩
      show totN (decF (decH b).1.2).1 + 48 = _
      rw [b1, a3, List.length_drop]; omega
    · rw [readE_flds h1 h2] at h; exact absurd h h2
  · rw [readE_head h1] at h; exact absurd h h1
theorem readE_fld {b : List UInt8} (h : (readE b).2 = 0) {f : Fld} (hf : f ∈ (readE b).1.plain) : f.2.length + 52 ≤ b.length ∧ f.2.length ≤ 1280 := by
  obtain ⟨h1, h2, h3, _, _⟩ := readE_spec h
  have h4 := totN_mem hf
  have h5 := szN_ge f.2.length
  omega
theorem openE_len {ky s : List UInt8} {A : List (List UInt8)} : (openE ky A s).1.length ≤ s.length := by
  unfold openE
  split
  · simp
  · split
    · simp
    · split
      · simp
      · split
        · rw [plainOf_length]; omega
        · simp
theorem partsE_sealed {d : List UInt8} {z : List UInt8 × List UInt8} (h : partsE d = some z) : z.2.length ≤ d.length := by
  unfold partsE at h
  simp only at h
  split at h
  · injection h with h
    rw [← h]
    simp only [List.length_take, List.length_drop]
    omega
  · cases h
theorem openP_key {ky b : List UInt8} (h : ky.length ≠ 32) : openP ky b = (zeroP, 5) := if_pos h
theorem openP_read {ky b : List UInt8} (h : ky.length = 32) (h2 : (readE b).2 ≠ 0) : openP ky b = (zeroP, (readE b).2) := by unfold openP; rw [if_neg (by omega), if_pos h2]
theorem openP_none {ky b : List UInt8} (h : ky.length = 32) (h2 : (readE b).2 = 0) (h3 : firstI 1028 (readE b).1.plain = none) : openP ky b = (zeroP, 10) := by
  unfold openP; rw [if_neg (by omega), if_neg (by simpa using h2), h3]
/-- What Open answers if there is a guard at i. -/
def openAt (ky b : List UInt8) (i : Nat) : Pkt × Int :=
  if i + 1 ≠ (readE b).1.plain.length then (zeroP, 3) else
    match partsE ((readE b).1.plain.getD i (0, [])).2 with
    | none => (zeroP, 3)
    | some (nonce, s) =>
      if (openE ky [b.take (b.length - ((readE b).1.plain.getD i (0, [])).2.length - 4), nonce] s).2 ≠ 0 then (zeroP, 6)
      else if (decF (openE ky [b.take (b.length - ((readE b).1.plain.getD i (0, [])).2.length - 4), nonce] s).1).2 ≠ 0 then (zeroP, (decF (openE ky [b.take (b.length - ((readE b).1.plain.getD i (0, [])).2.length - 4), nonce] s).1).2)
      else (⟨(readE b).1.h, (readE b).1.plain.take i, (decF (openE ky [b.take (b.length - ((readE b).1.plain.getD i (0, [])).2.length - 4), nonce] s).1).1, true⟩, 0)
theorem openP_some {ky b : List UInt8} {i : Nat} (h : ky.length = 32) (h2 : (readE b).2 = 0) (h3 : firstI 1028 (readE b).1.plain = some i) : openP ky b = openAt ky b i := by
  unfold openP; rw [if_neg (by omega), if_neg (by simpa using h2), h3]; rfl
theorem firstI_lt {k : Int} {L : List Fld} {i : Nat} (h : firstI k L = some i) : i < L.length := by
  unfold firstI at h
  exact ixs_lt (List.mem_of_mem_head? (by rw [h]; rfl))
end Go.Pkt
namespace Go.Proofs.Ytmmbcgbadaojeaa
open Go.RowKit Go.Sec Go.Oct Go.Pkt Go.Aes BigFrame

/-- A packet, and a code. -/
def PktE (r : Pkt × Int) (w : World) (e : Ending) (w' : World) : Prop := ∃ a1 n1 c1 a2 n2 c2, e = .returned (.tuple #[.agg #[.int .i64 r.1.h.leap, .int .i64 r.1.h.ver, .int .i64 r.1.h.mode, .int .i64 r.1.h.strat, .int .i64 r.1.h.poll, .int .i64 r.1.h.prec, .int .u32 (n32 r.1.h.rd), .int .u32 (n32 r.1.h.rp), .int .u32 (n32 r.1.h.id), .int .u64 (n64 r.1.h.ref), .int .u64 (n64 r.1.h.org), .int .u64 (n64 r.1.h.rcv), .int .u64 (n64 r.1.h.tx), .slice a1 n1 c1, .slice a2 n2 c2, .bool r.1.guarded], .int .i64 r.2]) ∧
  Ib w' a1 n1 r.1.plain ∧ n1 ≤ c1 ∧ Ib w' a2 n2 r.1.secret ∧ n2 ≤ c2 ∧ Ext w w'
theorem PktE.err (w w' : World) (e : Int) (hx : Ext w w') : PktE (zeroP, e) w (.returned (.tuple #[.agg #[.int .i64 0, .int .i64 0, .int .i64 0, .int .i64 0, .int .i64 0, .int .i64 0, .int .u32 0, .int .u32 0, .int .u32 0, .int .u64 0, .int .u64 0, .int .u64 0, .int .u64 0, .slice none 0 0, .slice none 0 0, .bool false], .int .i64 e])) w' := ⟨none, 0, 0, none, 0, 0, rfl, Ib.nil _ _, Nat.le_refl _, Ib.nil _ _, Nat.le_refl _, hx⟩

set_option maxRecDepth 100000 in
set_option maxHeartbeats 2000000 in
theorem popenp_any (ak ab : Option Addr) (nk ck nb cb : Nat) (ky b : List UInt8) (w : World) (hk : Sl w ak nk ky) (hck : nk ≤ ck) (hS : Sl w ab nb b) (hcb : nb ≤ cb) (hn : nb ≤ 1000000) :
    Calls Try.prog 30 #[.slice ak nk ck, .slice ab nb cb] w (PktE (openP ky b) w) := by
  have lk := hk.len
  have lb := hS.len
  have hrd := fun W H => pread_any ab nb cb b W H hcb hn
  obtain ⟨r, hr⟩ : ∃ r, openP ky b = r := ⟨_, rfl⟩
  rw [hr]
  have hr := Lib.hid hr
  by_cases q1 : nk = 32
  · have q1' : ky.length = 32 := by omega
    subst q1
    go_enter Try.func30, Try.ntmps30
    go_wp2_with fail
    refine nameCl ?_
    intro W hW
    have hE : Ext w W := by rw [hW]; exact (by repeat (first | (with_reducible first | exact Ext.refl _ | assumption | apply Ext.alloc | apply Ext.ext | apply Ext.drew | refine Ext.setCell ?_ ?_ _) | (focus (simp [go_sem]; done))))
    have hP : Blk W w.heap.size 58 [.int .i64 0, .int .i64 0, .int .i64 0, .int .i64 0, .int .i64 0, .int .i64 0, .int .u32 0, .int .u32 0, .int .u32 0, .int .u64 0, .int .u64 0, .int .u64 0, .int .u64 0, .slice none 0 0, .slice none 0 0, .bool false] := by rw [hW]; exact (by repeat (first | assumption | (refine Blk.newAt _ _ _ _ ?_; first | rfl | (simp only [World.size_alloc]; done)) | apply Blk.ext | apply Blk.alloc | (refine Blk.other ?_ ?_ _; rotate_left; (simp <;> omega))))
    clear hW
    (with_reducible refine (hrd W (hS.ext hE)).mono ?_)
    rintro e w1 ⟨b1, d1, rfl, ⟨B1, hO1⟩, hx1⟩
    have hE1 := hE.trans hx1
    have hP1 := hP.extB hx1
    have hlt := hP1.lt
    haveI := hP1.blt
    clear hE hP hx1 hrd
    by_cases q2 : (readE b).2 = 0
    · rw [q2]
      have hsp := readE_spec q2
      have hfl := fun f hf => readE_fld q2 (f := f) hf
      have hso := fun i h => openP_some (i := i) q1' q2 h
      have hno := fun h => openP_none q1' q2 h
      unfold openAt at hso
      generalize (readE b).1.plain = L at *
      generalize (readE b).1.h = H at *
      go_wp2_with (first
        | ((refine wpList_alloc_store (RP16) rfl rfl _ _ rfl rfl rfl rfl (by simp [Act.put]) ([.int .i64 H.leap, .int .i64 H.ver, .int .i64 H.mode, .int .i64 H.strat, .int .i64 H.poll, .int .i64 H.prec, .int .u32 (n32 H.rd), .int .u32 (n32 H.rp), .int .u32 (n32 H.id), .int .u64 (n64 H.ref), .int .u64 (n64 H.org), .int .u64 (n64 H.rcv), .int .u64 (n64 H.tx), .slice b1 L.length d1, .slice none 0 0, .bool false]) rfl (by simp) (rfl) ((by simp; repeat' (first | rfl | constructor))) ?_; intro x hz _); haveI := hz.blt; have f13 := hz.cell? 13 rfl)
        | fail)
      refine nameCl ?_
      intro W2 hW2
      have hx2 : Ext w1 W2 := by rw [hW2]; exact (by repeat (first | (with_reducible first | exact Ext.refl _ | assumption | apply Ext.alloc | apply Ext.ext | apply Ext.drew | refine Ext.setCell ?_ ?_ _) | (focus (simp [go_sem]; done))))
      have hG : Blk W2 w1.heap.size 58 [.int .i64 H.leap, .int .i64 H.ver, .int .i64 H.mode, .int .i64 H.strat, .int .i64 H.poll, .int .i64 H.prec, .int .u32 (n32 H.rd), .int .u32 (n32 H.rp), .int .u32 (n32 H.id), .int .u64 (n64 H.ref), .int .u64 (n64 H.org), .int .u64 (n64 H.rcv), .int .u64 (n64 H.tx), .slice b1 L.length d1, .slice none 0 0, .bool false] := by rw [hW2]; exact hz.extB (by repeat (first | (with_reducible first | exact Ext.refl _ | assumption | apply Ext.alloc | apply Ext.ext | apply Ext.drew | refine Ext.setCell ?_ ?_ _) | (focus (simp [go_sem]; done))))
      have hP2 := hP1.extB hx2
      have hE2 := hE1.trans hx2
      have hO2 := hO1.ext hx2
      clear hW2 hx2 hE1 hP1 hO1 f13 hz
      (with_reducible refine (xfirst_any b1 L.length d1 L W2 hO2.ib.1 (by omega)).mono ?_)
      rintro e w3 ⟨rfl, hx3⟩
      have hG3 := hG.extB hx3
      have hP3 := hP2.extB hx3
      have hE3 := hE2.trans hx3
      have hO3 := hO2.ext hx3
      clear hG hP2 hE2 hO2 hx3
      have hdc : L.length ≤ d1 := hO3.ib.2
      haveI := hP3.blt
      haveI := hG3.blt
      have f13 : w3.cell? ⟨w1.heap.size, 13, none⟩ = some (.slice b1 L.length d1) := hG3.cell? 13 rfl
      cases q3 : firstI 1028 L with
      | none =>
        have er := Lib.hid (show r = (zeroP, 10) by rw [← hr.out]; exact hno q3)
        have ez : firstZ 1028 L = -1 := by unfold firstZ; rw [q3]
        rw [ez]
        clear ez q3 hno hso
        go_wp2_with (first
          | (refine wpList_store_arr (RP16) rfl _ _ rfl (w.heap.size) (0) rfl ([.int .i64 0, .int .i64 0, .int .i64 0, .int .i64 0, .int .i64 0, .int .i64 0, .int .u32 0, .int .u32 0, .int .u32 0, .int .u64 0, .int .u64 0, .int .u64 0, .int .u64 0, .slice none 0 0, .slice none 0 0, .bool false]) rfl (58) _ ((hP3.extB (by repeat (first | (with_reducible first | exact Ext.refl _ | assumption | apply Ext.alloc | apply Ext.ext | apply Ext.drew | refine Ext.setCell ?_ ?_ _) | (focus (simp [go_sem]; done)))))) (rfl) (by simp) ((by simp; repeat' (first | rfl | constructor))) ?_; intro V hV hMV)
          | fail)
        refine bodyPost_ret (results_arr_tmp Try.results30 (RP16) _ _ (w.heap.size) (0) ([.int .i64 0, .int .i64 0, .int .i64 0, .int .i64 0, .int .i64 0, .int .i64 0, .int .u32 0, .int .u32 0, .int .u32 0, .int .u64 0, .int .u64 0, .int .u64 0, .int .u64 0, .slice none 0 0, .slice none 0 0, .bool false]) rfl (hV.rd) (rfl) (.int .i64 10) rfl) rfl ?_
        rw [er.out]
        exact PktE.err _ _ _ (Below.trans (hE3.trans (by repeat (first | (with_reducible first | exact Ext.refl _ | assumption | apply Ext.alloc | apply Ext.ext | apply Ext.drew | refine Ext.setCell ?_ ?_ _) | (focus (simp [go_sem]; done))))) (hMV.below (Nat.le_refl _) (Below.size (hE3.trans (by repeat (first | (with_reducible first | exact Ext.refl _ | assumption | apply Ext.alloc | apply Ext.ext | apply Ext.drew | refine Ext.setCell ?_ ?_ _) | (focus (simp [go_sem]; done))))))))
      | some i =>
        have hi := firstI_lt q3
        have hat := hso i q3
        rw [hr.out] at hat
        have ez : firstZ 1028 L = (i : Int) := by unfold firstZ; rw [q3]
        rw [ez]
        have iz : ¬ (i : Int) < 0 := by omega
        clear ez q3 hno hso
        by_cases q4 : i + 1 = L.length
        · rw [if_neg (by omega)] at hat
          replace hat := Lib.hid hat
          have iq : ((i : Int) != (L.length : Int) - 1) = false := by rw [bne_eq_false_iff_eq]; omega
          obtain ⟨y, hy⟩ : ∃ y, L[i]? = some y := ⟨_, List.getElem?_eq_getElem hi⟩
          obtain ⟨g0, o0, g', c', rfl, hb0, hc0, hc1, hSk, hcy⟩ := hO3.ib.1.at i hi _ hy
          obtain ⟨y52, y1280⟩ := hfl y (List.mem_of_getElem? hy)
          replace hat := Lib.hid (show r = _ by rw [hat.out, getD_at hy])
          have hi0 : (0 : Int) ≤ (i : Int) := by omega
          have hi1 : (i : Int) < (L.length : Int) := by omega
          haveI := hb0
          have hpa := fun W H => pparse_any g' y.2.length c' y.2 W H hcy (by omega)
          clear hfl
          go_wp2_with fail
          clear f13 hc0 hc1
          (with_reducible refine (hpa w3 hSk).mono ?_)
          rintro e w4 ⟨p1, n1, k1, p2, n2, k2, rfl, hps, hx4⟩
          have hE4 := hE3.trans hx4
          have hP4 := hP3.extB hx4
          have hG4 := hG3.extB hx4
          have hO4 := hO3.ext hx4
          haveI := hP4.blt
          clear hE3 hP3 hG3 hO3 hpa hx4 hb0
          cases q5 : partsE y.2 with
          | none =>
            have er := Lib.hid (show r = (zeroP, 3) by rw [hat.out, q5])
            clear q5 hps
            go_wp2_with (first
              | (refine wpList_alloc_store (RG2) rfl rfl _ _ rfl rfl rfl rfl (by simp [Act.put]) ([.slice p1 n1 k1, .slice p2 n2 k2]) rfl (by simp) (rfl) ((by simp; repeat' (first | rfl | constructor))) ?_; intro x2 hz2 _)
              | (refine wpList_store_arr (RP16) rfl _ _ rfl (w.heap.size) (0) rfl ([.int .i64 0, .int .i64 0, .int .i64 0, .int .i64 0, .int .i64 0, .int .i64 0, .int .u32 0, .int .u32 0, .int .u32 0, .int .u64 0, .int .u64 0, .int .u64 0, .int .u64 0, .slice none 0 0, .slice none 0 0, .bool false]) rfl (58) _ ((hP4.extB (by repeat (first | (with_reducible first | exact Ext.refl _ | assumption | apply Ext.alloc | apply Ext.ext | apply Ext.drew | refine Ext.setCell ?_ ?_ _) | (focus (simp [go_sem]; done)))))) (rfl) (by simp) ((by simp; repeat' (first | rfl | constructor))) ?_; intro V hV hMV)
              | fail)
            refine bodyPost_ret (results_arr_tmp Try.results30 (RP16) _ _ (w.heap.size) (0) ([.int .i64 0, .int .i64 0, .int .i64 0, .int .i64 0, .int .i64 0, .int .i64 0, .int .u32 0, .int .u32 0, .int .u32 0, .int .u64 0, .int .u64 0, .int .u64 0, .int .u64 0, .slice none 0 0, .slice none 0 0, .bool false]) rfl (hV.rd) (rfl) (.int .i64 3) rfl) rfl ?_
            rw [er.out]
            exact PktE.err _ _ _ (Below.trans (hE4.trans (by repeat (first | (with_reducible first | exact Ext.refl _ | assumption | apply Ext.alloc | apply Ext.ext | apply Ext.drew | refine Ext.setCell ?_ ?_ _) | (focus (simp [go_sem]; done))))) (hMV.below (Nat.le_refl _) (Below.size (hE4.trans (by repeat (first | (with_reducible first | exact Ext.refl _ | assumption | apply Ext.alloc | apply Ext.ext | apply Ext.drew | refine Ext.setCell ?_ ?_ _) | (focus (simp [go_sem]; done))))))))
          | some z =>
            obtain ⟨v1, m1, v2, m2⟩ := hps z q5
            have hzl := partsE_sealed q5
            replace hat := Lib.hid (show r = _ by rw [hat.out, q5])
            clear q5 hps
            go_wp2_with (first
              | ((refine wpList_alloc_store (RG2) rfl rfl _ _ rfl rfl rfl rfl (by simp [Act.put]) ([.slice p1 n1 k1, .slice p2 n2 k2]) rfl (by simp) (rfl) ((by simp; repeat' (first | rfl | constructor))) ?_; intro x2 hz2 _); haveI := hz2.blt; have e0 := hz2.cell? 0 rfl; have e1 := hz2.cell? 1 rfl)
              | fail)
            refine nameW ?_
            intro W5 hW5
            have hE6 : Ext w4 W5 := by rw [hW5]; exact (by repeat (first | (with_reducible first | exact Ext.refl _ | assumption | apply Ext.alloc | apply Ext.ext | apply Ext.drew | refine Ext.setCell ?_ ?_ _) | (focus (simp [go_sem]; done))))
            have hg5 : Blk W5 w4.heap.size 99 [.slice p1 n1 k1, .slice p2 n2 k2] := by rw [hW5]; exact hz2.extB (by repeat (first | (with_reducible first | exact Ext.refl _ | assumption | apply Ext.alloc | apply Ext.ext | apply Ext.drew | refine Ext.setCell ?_ ?_ _) | (focus (simp [go_sem]; done))))
            clear hW5 hz2 e0 e1
            have hE5 := hE4.trans hE6
            have hP5 := hP4.extB hE6
            have hG5 := hG4.extB hE6
            have hO5 := hO4.ext hE6
            have v1 := v1.ext hE6
            have v2 := v2.ext hE6
            have hk5 := hk.ext hE5
            have hS5 := hS.ext hE5
            clear hE4 hP4 hG4 hO4 hE6
            obtain ⟨Q, hQ⟩ : ∃ Q, nb - y.2.length - 4 = Q := ⟨_, rfl⟩
            have hSQ := hS5.take Q (by omega)
            have hQc : Q ≤ cb := by omega
            have hQi : (nb : Int) - (y.2.length : Int) - 4 = (Q : Int) := by omega
            have hQ1 : (Q : Int) ≤ (cb : Int) := by omega
            have hat := hat.out
            rw [lb, hQ] at hat
            have hop := fun b' c' W H1 H2 H3 => open_any ak b' p2 32 ck 2 c' n2 k2 ky [b.take Q, z.1] z.2 W H1 hck H2 (by omega) H3 m2
            have hAl := Lib.hid (show (openE ky [b.take Q, z.1] z.2).1.length ≤ 1280 from Nat.le_trans openE_len (Nat.le_trans hzl y1280))
            generalize openE ky [b.take Q, z.1] z.2 = A at *
            replace hat := Lib.hid hat
            haveI := hg5.blt
            have e0 := hg5.cell? 0 rfl
            have e1 : W5.cell? ⟨w4.heap.size, 1, none⟩ = some (.slice p2 n2 k2) := hg5.cell? 1 rfl
            clear hQ y52 lb
            refine wp_region_vague 19 [[], [], [], [2], [], [4], [2, 3, 4, 5], [2, 3, 4, 5, 6], [1, 2, 3, 4, 5, 6, 7], [], [9], [1, 2, 3, 4, 5, 6, 7, 8, 9, 10], [], [12], [0, 1, 2, 3, 4, 5, 6, 7, 8, 9, 10, 11, 12, 13], [0, 1, 2, 3, 4, 5, 6, 7, 8, 9, 10, 11, 12, 13, 14], [0, 1, 2, 3, 4, 5, 6, 7, 8, 9, 10, 11, 12, 13, 14, 15], [0, 1, 2, 3, 4, 5, 6, 7, 8, 9, 10, 11, 12, 13, 14, 15], [0, 1, 2, 3, 4, 5, 6, 7, 8, 9, 10, 11, 12, 13, 14, 15, 16], [0, 1, 2, 3, 4, 5, 6, 7, 8, 9, 10, 11, 12, 13, 14, 15, 16, 17, 18]] (by kernel_rfl) (by kernel_rfl) (by kernel_rfl) (by kernel_rfl) ?_; simp only [List.take_succ_cons, List.take_zero, List.drop_succ_cons, List.drop_zero, List.take_nil, List.drop_nil]
            (repeat (apply VD_der; (case h => (intro us w' hx hf; obtain ⟨x, rfl⟩ := hx.out; refine ⟨rfl, ?_⟩; simp [go_sem, execOp, *]; (try simp (disch := omega) only [Go.IntWalk.i64_in, Go.IntWalk.rem_in, Go.IntWalk.wrap64_in]); rfl)); (try simp only [Act.put, List.setIfInBounds_toArray, List.set_cons_succ, List.set_cons_zero])))
            (refine VD_vag (fun p => .slice (p 0).1 2 2) (fun p w'' => Bsc w'' (p 0).1 2 [b.take Q, z.1]) (fun p w w' h hx => by first | exact h.ext hx | exact ⟨h.1.ext hx, h.2.ext hx⟩ | exact ⟨h.1.ext hx, h.2⟩ | exact ⟨h.1.ext hx, h.2.1.ext hx, h.2.2.ext hx⟩) (fun us w' hx hf => ⟨rfl, ?_⟩) ?_; (unfold gives; simp [go_sem, execOp]; exact ⟨fun _ => (some ⟨w'.heap.size, 0, none⟩, 0), rfl, Ext.of_alloc _ _, bsc2 (hSQ.ext hx) hQc (v1.ext hx) m1 _⟩))
            (repeat (apply VD_der; (case h => (intro us w' hx hf; obtain ⟨x, rfl⟩ := hx.out; refine ⟨rfl, ?_⟩; simp [go_sem, execOp, *]; (try simp (disch := omega) only [Go.IntWalk.i64_in, Go.IntWalk.rem_in, Go.IntWalk.wrap64_in]); rfl)); (try simp only [Act.put, List.setIfInBounds_toArray, List.set_cons_succ, List.set_cons_zero])))
            (refine VD_vag (fun p => .tuple #[.slice (p 0).1 (A.1.length) (p 0).2, .int .i64 A.2]) (fun p w'' => Sl w'' (p 0).1 (A.1.length) (A.1) ∧ (A.1.length) ≤ (p 0).2) (fun p w w' h hx => ⟨h.1.ext hx, h.2⟩) (fun us w' hx hf => ⟨rfl, ?_⟩) ?_; (unfold gives; simp [go_sem, execOp]; exact vag_read (hop _ _ _ (hk5.ext hx) (hf _ (List.mem_append_right _ (List.mem_singleton_self _)) rfl) (v2.ext hx))))
            (repeat (apply VD_der; (case h => (intro us w' hx hf; obtain ⟨x, rfl⟩ := hx.out; refine ⟨rfl, ?_⟩; simp [go_sem, execOp, *]; (try simp (disch := omega) only [Go.IntWalk.i64_in, Go.IntWalk.rem_in, Go.IntWalk.wrap64_in]); rfl)); (try simp only [Act.put, List.setIfInBounds_toArray, List.set_cons_succ, List.set_cons_zero])))
            (refine VD_nil ?_; intro us w' hx hf; obtain ⟨x, rfl⟩ := hx.out; (try simp only [Act.put, List.setIfInBounds_toArray, List.set_cons_succ, List.set_cons_zero, wpList_none]); (try simp only [List.mem_cons, List.not_mem_nil, or_false, forall_eq_or_imp, forall_eq, List.nil_append, List.cons_append, List.mem_append, false_or, true_and, and_true] at hf); (try simp only [Nat.reduceAdd, Nat.zero_add] at hf); (try simp only [Nat.reduceAdd, Nat.zero_add]))
            obtain ⟨-, hS7, hc7⟩ := hf
            obtain ⟨p7, hp7⟩ : ∃ a, (us 14 0).1 = a := ⟨_, rfl⟩
            obtain ⟨k7, hk7⟩ : ∃ a, (us 14 0).2 = a := ⟨_, rfl⟩
            rw [hp7] at hS7 ⊢
            rw [hk7] at hc7 ⊢
            clear hp7 hk7 e0 e1 hg5 v1 v2 hSQ hk5 hS5 hop hQi hQ1 hQc
            have hx7 : Ext W5 (W5.ext x) := Ext.of_ext _ _
            have hE7 := hE5.trans hx7
            have hP7 := hP5.extB hx7
            have hG7 := hG5.extB hx7
            have hO7 := hO5.ext hx7
            clear hE5 hP5 hG5 hO5 hx7
            generalize W5.ext x = W7 at *
            haveI := hP7.blt
            by_cases q8 : A.2 = 0
            · rw [q8]
              have hdf := fun W H => xdecode_any p7 A.1.length k7 A.1 W H hc7 (Nat.le_trans hAl.out (by decide))
              replace hat := Lib.hid (show r = _ by rw [hat.out, if_neg (by simpa using q8)])
              clear q8
              generalize A.1 = D at *
              go_wp2_with fail
              (with_reducible refine (hdf W7 hS7).mono ?_)
              rintro e w8 ⟨b8, d8, rfl, hO8, hx8⟩
              have hE8 := hE7.trans hx8
              have hP8 := hP7.extB hx8
              have hG8 := hG7.extB hx8
              have hO7 := hO7.ext hx8
              clear hE7 hP7 hG7 hS7 hx8 hdf
              haveI := hP8.blt
              haveI := hG8.blt
              have g13 : w8.cell? ⟨w1.heap.size, 13, none⟩ = some (.slice (some ⟨g0, o0, none⟩) L.length d1) := hG8.cell? 13 rfl
              by_cases q9 : (decF D).2 = 0
              · rw [q9]
                have er := Lib.hid (show r = (⟨H, L.take i, (decF D).1, true⟩, 0) by rw [hat.out, if_neg (by simpa using q9)])
                clear q9 hat
                generalize (decF D).1 = S at *
                have l1 : (i : Int) ≤ (d1 : Int) := by omega
                have l2 : (i : Int) ≤ (i : Int) := Int.le_refl _
                have hil : i ≤ L.length := by omega
                have hGl : Rd w8 (some ⟨w1.heap.size, 0, none⟩) [.int .i64 H.leap, .int .i64 H.ver, .int .i64 H.mode, .int .i64 H.strat, .int .i64 H.poll, .int .i64 H.prec, .int .u32 (n32 H.rd), .int .u32 (n32 H.rp), .int .u32 (n32 H.id), .int .u64 (n64 H.ref), .int .u64 (n64 H.org), .int .u64 (n64 H.rcv), .int .u64 (n64 H.tx)] := Rd.left (vs := [.int .i64 H.leap, .int .i64 H.ver, .int .i64 H.mode, .int .i64 H.strat, .int .i64 H.poll, .int .i64 H.prec, .int .u32 (n32 H.rd), .int .u32 (n32 H.rp), .int .u32 (n32 H.id), .int .u64 (n64 H.ref), .int .u64 (n64 H.org), .int .u64 (n64 H.rcv), .int .u64 (n64 H.tx)]) (us := [.slice (some ⟨g0, o0, none⟩) L.length d1, .slice none 0 0, .bool false]) hG8.rd
                clear q4 iq iz hi hi1 hi0 hy
                go_wp2_with fail
                refine wp_region_vague 9 [[], [0], [], [2], [], [], [2, 3, 4, 5], [], [0, 1, 2, 3, 4, 5, 6, 7], [0, 1, 2, 3, 4, 5, 6, 7, 8], [0, 1, 2, 3, 4, 5, 6, 7, 8, 9]] (by kernel_rfl) (by kernel_rfl) (by kernel_rfl) (by kernel_rfl) ?_; simp only [List.take_succ_cons, List.take_zero, List.drop_succ_cons, List.drop_zero, List.take_nil, List.drop_nil]
                (repeat (apply VD_der; (case h => (intro us w' hx hf; obtain ⟨x, rfl⟩ := hx.out; refine ⟨rfl, ?_⟩; simp [go_sem, execOp, *]; (try simp (disch := omega) only [Go.IntWalk.i64_in, Go.IntWalk.rem_in, Go.IntWalk.wrap64_in]); rfl)); (try simp only [Act.put, List.setIfInBounds_toArray, List.set_cons_succ, List.set_cons_zero])))
                (refine VD_load_arr (RH13) _ rfl (fun _ => rfl) (w1.heap.size) (0) (fun _ => by simp [go_sem]) ([.int .i64 H.leap, .int .i64 H.ver, .int .i64 H.mode, .int .i64 H.strat, .int .i64 H.poll, .int .i64 H.prec, .int .u32 (n32 H.rd), .int .u32 (n32 H.rp), .int .u32 (n32 H.id), .int .u64 (n64 H.ref), .int .u64 (n64 H.org), .int .u64 (n64 H.rcv), .int .u64 (n64 H.tx)]) (hGl) (rfl) ?_)
                (repeat (apply VD_der; (case h => (intro us w' hx hf; obtain ⟨x, rfl⟩ := hx.out; refine ⟨rfl, ?_⟩; simp [go_sem, execOp, *]; (try simp (disch := omega) only [Go.IntWalk.i64_in, Go.IntWalk.rem_in, Go.IntWalk.wrap64_in]); rfl)); (try simp only [Act.put, List.setIfInBounds_toArray, List.set_cons_succ, List.set_cons_zero])))
                (refine VD_nil ?_; intro us w' hx hf; obtain ⟨x, rfl⟩ := hx.out; (try simp only [Act.put, List.setIfInBounds_toArray, List.set_cons_succ, List.set_cons_zero, wpList_none]); (try simp only [List.mem_cons, List.not_mem_nil, or_false, forall_eq_or_imp, forall_eq, List.nil_append, List.cons_append, List.mem_append, false_or, true_and, and_true] at hf); (try simp only [Nat.reduceAdd, Nat.zero_add] at hf); (try simp only [Nat.reduceAdd, Nat.zero_add]))
                have hx9 : Ext w8 (w8.ext x) := Ext.of_ext _ _
                have hE9 := hE8.trans hx9
                have hP9 := hP8.extB hx9
                have hO7 := hO7.ext hx9
                have hO8 := hO8.ext hx9
                generalize w8.ext x = W9 at *
                haveI := hP9.blt
                clear hf hx9 hE8 hP8 hG8 hGl g13
                go_wp2_with (first
                  | (refine wpList_store_arr (RP16) rfl _ _ rfl (w.heap.size) (0) rfl ([.int .i64 H.leap, .int .i64 H.ver, .int .i64 H.mode, .int .i64 H.strat, .int .i64 H.poll, .int .i64 H.prec, .int .u32 (n32 H.rd), .int .u32 (n32 H.rp), .int .u32 (n32 H.id), .int .u64 (n64 H.ref), .int .u64 (n64 H.org), .int .u64 (n64 H.rcv), .int .u64 (n64 H.tx), .slice (some ⟨g0, o0, none⟩) i i, .slice b8 S.length d8, .bool true]) rfl (58) _ (hP9) (rfl) (by simp) ((by simp; repeat' (first | rfl | constructor))) ?_; intro V hV hMV)
                  | fail)
                refine bodyPost_ret (results_arr_tmp Try.results30 (RP16) _ _ (w.heap.size) (0) ([.int .i64 H.leap, .int .i64 H.ver, .int .i64 H.mode, .int .i64 H.strat, .int .i64 H.poll, .int .i64 H.prec, .int .u32 (n32 H.rd), .int .u32 (n32 H.rp), .int .u32 (n32 H.id), .int .u64 (n64 H.ref), .int .u64 (n64 H.org), .int .u64 (n64 H.rcv), .int .u64 (n64 H.tx), .slice (some ⟨g0, o0, none⟩) i i, .slice b8 S.length d8, .bool true]) rfl (hV.rd) (rfl) (.int .i64 0) rfl) rfl ?_
                rw [er.out]
                exact ⟨_, _, _, _, _, _, rfl, (hO7.mut hP9 (by decide) (by simp) hMV).ib.1.take i hil, Nat.le_refl _, (hO8.mut hP9 (by decide) (by simp) hMV).ib.1, (hO8.mut hP9 (by decide) (by simp) hMV).ib.2, Below.trans hE9 (hMV.below (Nat.le_refl _) hE9.size)⟩
              · have er := Lib.hid (show r = (zeroP, (decF D).2) by rw [hat.out, if_pos q9])
                have i9 := ne0 q9
                generalize (decF D).2 = v9 at *
                generalize (decF D).1 = S at *
                clear q9 hat
                go_wp2_with (first
                  | (refine wpList_store_arr (RP16) rfl _ _ rfl (w.heap.size) (0) rfl ([.int .i64 0, .int .i64 0, .int .i64 0, .int .i64 0, .int .i64 0, .int .i64 0, .int .u32 0, .int .u32 0, .int .u32 0, .int .u64 0, .int .u64 0, .int .u64 0, .int .u64 0, .slice none 0 0, .slice none 0 0, .bool false]) rfl (58) _ ((hP8.extB (by repeat (first | (with_reducible first | exact Ext.refl _ | assumption | apply Ext.alloc | apply Ext.ext | apply Ext.drew | refine Ext.setCell ?_ ?_ _) | (focus (simp [go_sem]; done)))))) (rfl) (by simp) ((by simp; repeat' (first | rfl | constructor))) ?_; intro V hV hMV)
                  | fail)
                refine bodyPost_ret (results_arr_tmp Try.results30 (RP16) _ _ (w.heap.size) (0) ([.int .i64 0, .int .i64 0, .int .i64 0, .int .i64 0, .int .i64 0, .int .i64 0, .int .u32 0, .int .u32 0, .int .u32 0, .int .u64 0, .int .u64 0, .int .u64 0, .int .u64 0, .slice none 0 0, .slice none 0 0, .bool false]) rfl (hV.rd) (rfl) (.int .i64 v9) rfl) rfl ?_
                rw [er.out]
                exact PktE.err _ _ _ (Below.trans (hE8.trans (by repeat (first | (with_reducible first | exact Ext.refl _ | assumption | apply Ext.alloc | apply Ext.ext | apply Ext.drew | refine Ext.setCell ?_ ?_ _) | (focus (simp [go_sem]; done))))) (hMV.below (Nat.le_refl _) (Below.size (hE8.trans (by repeat (first | (with_reducible first | exact Ext.refl _ | assumption | apply Ext.alloc | apply Ext.ext | apply Ext.drew | refine Ext.setCell ?_ ?_ _) | (focus (simp [go_sem]; done))))))))
            · have er := Lib.hid (show r = (zeroP, 6) by rw [hat.out, if_pos q8])
              have i8 := ne0 q8
              generalize A.2 = v8 at *
              generalize A.1 = D at *
              clear q8 hat
              go_wp2_with (first
                | (refine wpList_store_arr (RP16) rfl _ _ rfl (w.heap.size) (0) rfl ([.int .i64 0, .int .i64 0, .int .i64 0, .int .i64 0, .int .i64 0, .int .i64 0, .int .u32 0, .int .u32 0, .int .u32 0, .int .u64 0, .int .u64 0, .int .u64 0, .int .u64 0, .slice none 0 0, .slice none 0 0, .bool false]) rfl (58) _ ((hP7.extB (by repeat (first | (with_reducible first | exact Ext.refl _ | assumption | apply Ext.alloc | apply Ext.ext | apply Ext.drew | refine Ext.setCell ?_ ?_ _) | (focus (simp [go_sem]; done)))))) (rfl) (by simp) ((by simp; repeat' (first | rfl | constructor))) ?_; intro V hV hMV)
                | fail)
              refine bodyPost_ret (results_arr_tmp Try.results30 (RP16) _ _ (w.heap.size) (0) ([.int .i64 0, .int .i64 0, .int .i64 0, .int .i64 0, .int .i64 0, .int .i64 0, .int .u32 0, .int .u32 0, .int .u32 0, .int .u64 0, .int .u64 0, .int .u64 0, .int .u64 0, .slice none 0 0, .slice none 0 0, .bool false]) rfl (hV.rd) (rfl) (.int .i64 6) rfl) rfl ?_
              rw [er.out]
              exact PktE.err _ _ _ (Below.trans (hE7.trans (by repeat (first | (with_reducible first | exact Ext.refl _ | assumption | apply Ext.alloc | apply Ext.ext | apply Ext.drew | refine Ext.setCell ?_ ?_ _) | (focus (simp [go_sem]; done))))) (hMV.below (Nat.le_refl _) (Below.size (hE7.trans (by repeat (first | (with_reducible first | exact Ext.refl _ | assumption | apply Ext.alloc | apply Ext.ext | apply Ext.drew | refine Ext.setCell ?_ ?_ _) | (focus (simp [go_sem]; done))))))))
        · rw [if_pos (by omega)] at hat
          have er := Lib.hid hat
          have iq : ((i : Int) != (L.length : Int) - 1) = true := by rw [bne_iff_ne]; omega
          clear hat
          go_wp2_with (first
            | (refine wpList_store_arr (RP16) rfl _ _ rfl (w.heap.size) (0) rfl ([.int .i64 0, .int .i64 0, .int .i64 0, .int .i64 0, .int .i64 0, .int .i64 0, .int .u32 0, .int .u32 0, .int .u32 0, .int .u64 0, .int .u64 0, .int .u64 0, .int .u64 0, .slice none 0 0, .slice none 0 0, .bool false]) rfl (58) _ ((hP3.extB (by repeat (first | (with_reducible first | exact Ext.refl _ | assumption | apply Ext.alloc | apply Ext.ext | apply Ext.drew | refine Ext.setCell ?_ ?_ _) | (focus (simp [go_sem]; done)))))) (rfl) (by simp) ((by simp; repeat' (first | rfl | constructor))) ?_; intro V hV hMV)
            | fail)
          refine bodyPost_ret (results_arr_tmp Try.results30 (RP16) _ _ (w.heap.size) (0) ([.int .i64 0, .int .i64 0, .int .i64 0, .int .i64 0, .int .i64 0, .int .i64 0, .int .u32 0, .int .u32 0, .int .u32 0, .int .u64 0, .int .u64 0, .int .u64 0, .int .u64 0, .slice none 0 0, .slice none 0 0, .bool false]) rfl (hV.rd) (rfl) (.int .i64 3) rfl) rfl ?_
          rw [er.out]
          exact PktE.err _ _ _ (Below.trans (hE3.trans (by repeat (first | (with_reducible first | exact Ext.refl _ | assumption | apply Ext.alloc | apply Ext.ext | apply Ext.drew | refine Ext.setCell ?_ ?_ _) | (focus (simp [go_sem]; done))))) (hMV.below (Nat.le_refl _) (Below.size (hE3.trans (by repeat (first | (with_reducible first | exact Ext.refl _ | assumption | apply Ext.alloc | apply Ext.ext | apply Ext.drew | refine Ext.setCell ?_ ?_ _) | (focus (simp [go_sem]; done))))))))
    · have er := Lib.hid (show r = (zeroP, (readE b).2) by rw [← hr.out]; exact openP_read q1' q2)
      have i2 := ne0 q2
      generalize (readE b).2 = v at *
      generalize (readE b).1.plain = L at *
      generalize (readE b).1.h = H at *
      clear q2
      go_wp2_with (first
        | (refine wpList_alloc_store (RP16) rfl rfl _ _ rfl rfl rfl rfl (by simp [Act.put]) ([.int .i64 H.leap, .int .i64 H.ver, .int .i64 H.mode, .int .i64 H.strat, .int .i64 H.poll, .int .i64 H.prec, .int .u32 (n32 H.rd), .int .u32 (n32 H.rp), .int .u32 (n32 H.id), .int .u64 (n64 H.ref), .int .u64 (n64 H.org), .int .u64 (n64 H.rcv), .int .u64 (n64 H.tx), .slice b1 L.length d1, .slice none 0 0, .bool false]) rfl (by simp) (rfl) ((by simp; repeat' (first | rfl | constructor))) ?_; intro x hz _)
        | (refine wpList_store_arr (RP16) rfl _ _ rfl (w.heap.size) (0) rfl ([.int .i64 0, .int .i64 0, .int .i64 0, .int .i64 0, .int .i64 0, .int .i64 0, .int .u32 0, .int .u32 0, .int .u32 0, .int .u64 0, .int .u64 0, .int .u64 0, .int .u64 0, .slice none 0 0, .slice none 0 0, .bool false]) rfl (58) _ ((hP1.extB (by repeat (first | (with_reducible first | exact Ext.refl _ | assumption | apply Ext.alloc | apply Ext.ext | apply Ext.drew | refine Ext.setCell ?_ ?_ _) | (focus (simp [go_sem]; done)))))) (rfl) (by simp) ((by simp; repeat' (first | rfl | constructor))) ?_; intro V hV hMV)
        | fail)
      refine bodyPost_ret (results_arr_tmp Try.results30 (RP16) _ _ (w.heap.size) (0) ([.int .i64 0, .int .i64 0, .int .i64 0, .int .i64 0, .int .i64 0, .int .i64 0, .int .u32 0, .int .u32 0, .int .u32 0, .int .u64 0, .int .u64 0, .int .u64 0, .int .u64 0, .slice none 0 0, .slice none 0 0, .bool false]) rfl (hV.rd) (rfl) (.int .i64 v) rfl) rfl ?_
      rw [er.out]
      exact PktE.err _ _ _ (Below.trans (hE1.trans (by repeat (first | (with_reducible first | exact Ext.refl _ | assumption | apply Ext.alloc | apply Ext.ext | apply Ext.drew | refine Ext.setCell ?_ ?_ _) | (focus (simp [go_sem]; done))))) (hMV.below (Nat.le_refl _) (Below.size (hE1.trans (by repeat (first | (with_reducible first | exact Ext.refl _ | assumption | apply Ext.alloc | apply Ext.ext | apply Ext.drew | refine Ext.setCell ?_ ?_ _) | (focus (simp [go_sem]; done))))))))
  · have er := Lib.hid (show r = (zeroP, 5) by rw [← hr.out]; exact openP_key (by omega))
    have i1 : ((nk : Int) != 32) = true := by rw [bne_iff_ne]; omega
    clear lk lb q1
    go_enter Try.func30, Try.ntmps30
    go_wp2_with (first
      | (refine wpList_store_arr (RP16) rfl _ _ rfl (w.heap.size) (0) rfl ([.int .i64 0, .int .i64 0, .int .i64 0, .int .i64 0, .int .i64 0, .int .i64 0, .int .u32 0, .int .u32 0, .int .u32 0, .int .u64 0, .int .u64 0, .int .u64 0, .int .u64 0, .slice none 0 0, .slice none 0 0, .bool false]) rfl (58) _ ((Blk.new w #[.int .i64 0, .int .i64 0, .int .i64 0, .int .i64 0, .int .i64 0, .int .i64 0, .int .u32 0, .int .u32 0, .int .u32 0, .int .u64 0, .int .u64 0, .int .u64 0, .int .u64 0, .slice none 0 0, .slice none 0 0, .bool false] 58)) (rfl) (by simp) ((by simp; repeat' (first | rfl | constructor))) ?_; intro V hV hMV)
      | fail)
    refine bodyPost_ret (results_arr_tmp Try.results30 (RP16) _ _ (w.heap.size) (0) ([.int .i64 0, .int .i64 0, .int .i64 0, .int .i64 0, .int .i64 0, .int .i64 0, .int .u32 0, .int .u32 0, .int .u32 0, .int .u64 0, .int .u64 0, .int .u64 0, .int .u64 0, .slice none 0 0, .slice none 0 0, .bool false]) rfl (hV.rd) (rfl) (.int .i64 5) rfl) rfl ?_
    rw [er.out]
    exact PktE.err _ _ _ (Below.trans (Ext.of_alloc _ _) (hMV.below (Nat.le_refl _) (by simp)))
end Go.Proofs.Ytmmbcgbadaojeaa

/- The walks of layer 18: total, Length. -/
namespace Go.Pkt
def badL (l : List Int) : Prop := ∃ x ∈ l, x < 0 ∨ 1280 < x
instance (l : List Int) : Decidable (badL l) := by unfold badL; infer_instance
/-- The bytes of fields with so many bytes of Data. -/
def sumL (l : List Int) : Nat := (l.map fun x => szN x.toNat).sum
theorem sumL_snoc (l : List Int) (x : Int) : sumL (l ++ [x]) = sumL l + szN x.toNat := by simp [sumL]
/-- What total answers. -/
def totE (l : List Int) : Int × Int := if badL l then (0, 4) else ((min (sumL l) 1281 : Nat), 0)
def allN (a b : Nat) : Nat := 72 + a + pad4 (16 + b)
def lenE (a b : List Int) : Int × Int :=
  if badL a ∨ badL b then (0, 4) else if 1232 < sumL a ∨ 1232 < sumL b ∨ 1280 < allN (sumL a) (sumL b) then (0, 2) else ((allN (sumL a) (sumL b) : Nat), 0)
theorem badL_at {l : List Int} {k : Nat} {x : Int} (h : l[k]? = some x) (hx : x < 0 ∨ 1280 < x) : badL l := ⟨x, List.mem_of_getElem? h, hx⟩
end Go.Pkt
namespace Go.Proofs.Ytmmbcgbadaojeaa
open Go.RowKit Go.Sec Go.Oct Go.Pkt Go.Aes BigFrame

set_option maxRecDepth 100000 in
set_option maxHeartbeats 2000000 in
theorem ptotal_any (a : Option Addr) (n c : Nat) (l : List Int) (w : World) (h : Rd w a (l.map i64v)) (hn : l.length = n) (hb : n ≤ 1000000) :
    Calls Try.prog 55 #[.slice a n c] w fun e w' => e = .returned (.tuple #[.int .i64 (totE l).1, .int .i64 (totE l).2]) ∧ Ext w w' := by
  obtain ⟨r, hr⟩ : ∃ r, totE l = r := ⟨_, rfl⟩
  rw [hr]
  have hr := Lib.hid hr
  have hat : ∀ W, Ext w W → ∀ k, k < n → ∃ b o x, a = some ⟨b, o, none⟩ ∧ BlkLt b W ∧ W.cell? ⟨b, o + k, none⟩ = some (.int .i64 x) ∧ l[k]? = some x := fun W hW k hk => by
    obtain ⟨b, o, h1, h2, h3⟩ := (h.ext hW).at k (by simp; omega)
    refine ⟨b, o, l[k]'(by omega), h1, h2, by simpa using h3, List.getElem?_eq_getElem _⟩
  have hts : ∀ k x, l[k]? = some x → l.take (k + 1) = l.take k ++ [x] := fun k x hx => by
    obtain ⟨hk, rfl⟩ := List.getElem?_eq_some_iff.1 hx
    exact List.take_succ_eq_append_getElem hk
  go_enter Try.func55, Try.ntmps55
  go_wp2_with fail
  go_loopw [2, 5, 10] (fun v2 _ v10 wr => ∃ k : Nat, k ≤ n ∧ v2 = .int .i64 0 ∧ v10 = .int .i64 k ∧ Hid (∀ x ∈ l.take k, 0 ≤ x ∧ x ≤ 1280) ∧ Ext w wr) (fun _ _ v10 _ => n - (intOf v10).toNat)
  case atStart => exact ⟨0, by omega, rfl, rfl, Lib.hid (by simp), Ext.refl _⟩
  case round =>
    obtain ⟨k, hk, rfl, rfl, hm, hx⟩ := hrel
    by_cases hlt : k < n
    · obtain ⟨b0, o0, x, rfl, hb0, hc0, hxi⟩ := hat _ hx k hlt
      have i0 : (0 : Int) ≤ (k : Int) := by omega
      have i1 : (k : Int) < (n : Int) := by omega
      haveI := hb0
      by_cases q1 : x < 0
      · have er := Lib.hid (show r = (0, 4) by rw [← hr.out]; exact if_pos (badL_at hxi (.inl q1)))
        go_wp2_with fail
        go_ret2
        rw [er.out]
        exact ⟨rfl, hx⟩
      · by_cases q2 : 1280 < x
        · have er := Lib.hid (show r = (0, 4) by rw [← hr.out]; exact if_pos (badL_at hxi (.inr q2)))
          go_wp2_with fail
          go_ret2
          rw [er.out]
          exact ⟨rfl, hx⟩
        · have hm2 := Lib.hid (show ∀ y ∈ l.take (k + 1), 0 ≤ y ∧ y ≤ 1280 by
            rw [hts k x hxi]
            intro y hy
            rcases List.mem_append.1 hy with h | h
            · exact hm.out y h
            · rw [List.mem_singleton.1 h]; omega)
          go_wp2_with fail
          go_roundw
          case rel => exact ⟨k + 1, by omega, rfl, by go_num, hm2, hx⟩
          case measure => simp [intOf]; omega
    · obtain rfl : k = n := by omega
      have hall : ∀ x ∈ l, 0 ≤ x ∧ x ≤ 1280 := by have := hm.out; rwa [List.take_of_length_le (by omega)] at this
      have er := Lib.hid (show r = (((min (sumL l) 1281 : Nat) : Int), 0) by
        rw [← hr.out]
        exact if_neg (fun ⟨x, hx, hb⟩ => by have := hall x hx; omega))
      have hall := Lib.hid hall
      clear hm
      go_wp2_with fail
      go_loopw [2, 7, 23] (fun v2 _ v23 wr => ∃ j : Nat, j ≤ k ∧ v23 = .int .i64 j ∧ v2 = .int .i64 (min (sumL (l.take j)) 1281 : Nat) ∧ Ext w wr) (fun _ _ v23 _ => k - (intOf v23).toNat)
      case atStart => exact ⟨0, by omega, rfl, rfl, hx⟩
      case round =>
        clear hx
        obtain ⟨j, hj, rfl, rfl, hx⟩ := hrel
        by_cases hlt : j < k
        · obtain ⟨b0, o0, x, rfl, hb0, hc0, hxi⟩ := hat _ hx j hlt
          obtain ⟨x0, x1⟩ := hall.out x (List.mem_of_getElem? hxi)
          obtain ⟨m, rfl⟩ : ∃ m : Nat, x = (m : Int) := ⟨x.toNat, by omega⟩
          have i0 : (0 : Int) ≤ (j : Int) := by omega
          have i1 : (j : Int) < (k : Int) := by omega
          have hs := sumL_snoc (l.take j) (m : Int)
          rw [← hts j _ hxi, Int.toNat_natCast] at hs
          haveI := hb0
          have hsz : szN m = max 16 (pad4 (m + 4)) := by unfold szN pad4; omega
          have hp4 : pad4 (m + 4) ≤ 1300 := by unfold pad4; omega
          have hpp := fun W => ppadded_any (m + 4) (show (m : Int) + 4 = ((m + 4 : Nat) : Int) by omega) W (by omega)
          go_wp2_with (first
            | (go_at_call 56; refine (hpp _).mono ?_; rintro e w1 ⟨rfl, hxq⟩; obtain ⟨xq, rfl⟩ := hxq.out; clear hxq)
            | fail)
          go_roundw
          case rel => exact ⟨j + 1, by omega, by go_num, (by refine congrArg (Value.int IntKind.i64) ?_; rw [hs, hsz]; (try rw [Go.IntWalk.wrap64_in _ (by omega)]); omega), hx.trans (by repeat (first | (with_reducible first | exact Ext.refl _ | assumption | apply Ext.alloc | apply Ext.ext | apply Ext.drew | refine Ext.setCell ?_ ?_ _) | (focus (simp [go_sem]; done))))⟩
          case measure => simp [intOf]; omega
        · obtain rfl : j = k := by omega
          go_wp2_with fail
          go_ret2
          have htk : l.take j = l := List.take_of_length_le (by omega)
          rw [er.out]
          exact ⟨by rw [htk]; rfl, hx⟩

set_option maxRecDepth 100000 in
set_option maxHeartbeats 2000000 in
theorem plength_any (a b : Option Addr) (n c m d : Nat) (l k : List Int) (w : World) (h : Rd w a (l.map i64v)) (hn : l.length = n) (hb : n ≤ 1000000) (h2 : Rd w b (k.map i64v)) (hm : k.length = m) (hb2 : m ≤ 1000000) :
    Calls Try.prog 24 #[.slice a n c, .slice b m d] w fun e w' => e = .returned (.tuple #[.int .i64 (lenE l k).1, .int .i64 (lenE l k).2]) ∧ Ext w w' := by
  have ht1 := fun W H => ptotal_any a n c l W H hn hb
  have ht2 := fun W H => ptotal_any b m d k W H hm hb2
  obtain ⟨r, hr⟩ : ∃ r, lenE l k = r := ⟨_, rfl⟩
  rw [hr]
  have hr := Lib.hid hr
  go_enter Try.func24, Try.ntmps24
  go_wp2_with fail
  (with_reducible refine (ht1 w h).mono ?_)
  rintro e w1 ⟨rfl, hx1⟩
  go_wp2_with fail
  (with_reducible refine (ht2 w1 (h2.ext hx1)).mono ?_)
  rintro e w2 ⟨rfl, hx2⟩
  have hE := hx1.trans hx2
  clear ht1 ht2
  by_cases q1 : badL l
  · have er := Lib.hid (show r = (0, 4) by rw [← hr.out]; exact if_pos (.inl q1))
    rw [show totE l = (0, 4) from if_pos q1]
    generalize totE k = t at *
    go_wp2_with fail
    go_ret2
    rw [er.out]
    exact ⟨rfl, hE⟩
  · rw [show totE l = (((min (sumL l) 1281 : Nat) : Int), 0) from if_neg q1]
    by_cases q2 : badL k
    · have er := Lib.hid (show r = (0, 4) by rw [← hr.out]; exact if_pos (.inr q2))
      rw [show totE k = (0, 4) from if_pos q2]
      go_wp2_with fail
      go_ret2
      rw [er.out]
      exact ⟨rfl, hE⟩
    · rw [show totE k = (((min (sumL k) 1281 : Nat) : Int), 0) from if_neg q2]
      have hrr := hr.out
      unfold lenE at hrr
      rw [if_neg (fun h => h.elim q1 q2)] at hrr
      replace hrr := Lib.hid hrr
      generalize sumL l = A at *
      generalize sumL k = B at *
      obtain ⟨A1, hA⟩ : ∃ A1, min A 1281 = A1 := ⟨_, rfl⟩
      obtain ⟨B1, hB⟩ : ∃ B1, min B 1281 = B1 := ⟨_, rfl⟩
      have hA1 : A1 ≤ 1281 := by omega
      have hB1 : B1 ≤ 1281 := by omega
      have hpp := fun W => ppadded_any (16 + B1) (show (16 : Int) + (B1 : Int) = ((16 + B1 : Nat) : Int) by omega) W (by omega)
      have hpb : pad4 (16 + B1) ≤ 1310 := by unfold pad4; omega
      have hA := Lib.hid hA
      have hB := Lib.hid hB
      rw [hA.out, hB.out]
      have iall : (48 : Int) + (A1 : Int) + 4 + 4 + 16 + ((pad4 (16 + B1) : Nat) : Int) = ((allN A1 B1 : Nat) : Int) := by unfold allN; omega
      by_cases q3 : 1232 < max A1 B1
      · have er := Lib.hid (show r = (0, 2) by rw [← hrr.out, if_pos]; have := hA.out; have := hB.out; omega)
        have i3 : (1232 : Int) < max (A1 : Int) (B1 : Int) := by omega
        clear iall
        go_wp2_with (first
          | (go_at_call 56; refine (hpp _).mono ?_; rintro e w1 ⟨rfl, hxq⟩; obtain ⟨xq, rfl⟩ := hxq.out; clear hxq)
          | fail)
        go_ret2
        rw [er.out]
        exact ⟨rfl, hE.trans (by repeat (first | (with_reducible first | exact Ext.refl _ | assumption | apply Ext.alloc | apply Ext.ext | apply Ext.drew | refine Ext.setCell ?_ ?_ _) | (focus (simp [go_sem]; done))))⟩
      · have i3 : ¬ (1232 : Int) < max (A1 : Int) (B1 : Int) := by omega
        have eA : A = A1 := by have := hA.out; omega
        have eB : B = B1 := by have := hB.out; omega
        rw [eA, eB] at hrr
        have hal : allN A1 B1 = 72 + A1 + pad4 (16 + B1) := rfl
        by_cases q4 : 1280 < 72 + A1 + pad4 (16 + B1)
        · have er := Lib.hid (show r = (0, 2) by rw [← hrr.out, if_pos]; rw [hal]; omega)
          have i4 : (1280 : Int) < 48 + (A1 : Int) + 4 + 4 + 16 + ((pad4 (16 + B1) : Nat) : Int) := by omega
          clear iall hal eA eB
          go_wp2_with (first
            | (go_at_call 56; refine (hpp _).mono ?_; rintro e w1 ⟨rfl, hxq⟩; obtain ⟨xq, rfl⟩ := hxq.out; clear hxq)
            | fail)
          go_ret2
          rw [er.out]
          exact ⟨rfl, hE.trans (by repeat (first | (with_reducible first | exact Ext.refl _ | assumption | apply Ext.alloc | apply Ext.ext | apply Ext.drew | refine Ext.setCell ?_ ?_ _) | (focus (simp [go_sem]; done))))⟩
        · have er := Lib.hid (show r = (((allN A1 B1 : Nat) : Int), 0) by rw [← hrr.out, if_neg]; rw [hal]; omega)
          have i4 : ¬ (1280 : Int) < 48 + (A1 : Int) + 4 + 4 + 16 + ((pad4 (16 + B1) : Nat) : Int) := by omega
          have iall := Lib.hid iall
          clear hal eA eB
          go_wp2_with (first
            | (go_at_call 56; refine (hpp _).mono ?_; rintro e w1 ⟨rfl, hxq⟩; obtain ⟨xq, rfl⟩ := hxq.out; clear hxq)
            | fail)
          go_ret2
          rw [er.out, ← iall.out]
          exact ⟨rfl, hE.trans (by repeat (first | (with_reducible first | exact Ext.refl _ | assumption | apply Ext.alloc | apply Ext.ext | apply Ext.drew | refine Ext.setCell ?_ ?_ _) | (focus (simp [go_sem]; done))))⟩
end Go.Proofs.Ytmmbcgbadaojeaa

/- Layer 18: the sanity check. -/
namespace Go.Pkt
open Go.Oct Go.Aes Go.Sec
def p18 : Pkt := ⟨askH 7, [], [], false⟩
def z32 : List UInt8 := List.replicate 32 0
def z16 : List UInt8 := List.replicate 16 0
theorem fits18 : Fits p18 z16.length := ⟨askH_ok 7, by simp [p18], by simp [p18], by simp [p18], by simp [p18], by simp [p18], by decide, by decide, by decide⟩
def b18 : List UInt8 := hdrB p18.h ++ bytesF p18.plain ++ fldB (1028, guardB z16 (sealB z32 p18 z16))
theorem z32_len : z32.length = 32 := by decide
theorem prot18 : protE z32 p18 z16 = (b18, 0) := by unfold b18; exact (protE_fits z32_len fits18).1
theorem b18_len : b18.length = 88 := by
  have h := (protE_fits z32_len fits18).2
  unfold b18
  rw [List.length_append, h, List.length_append, hdrB_length]
  simp [bytesF, z16, pad4, totN, p18]
theorem open18 : openP z32 b18 = (⟨p18.h, p18.plain.map padF, p18.secret.map padF, true⟩, 0) := by unfold b18; exact openP_fits z32_len fits18
theorem len18 : lenE [] [] = (88, 0) := by decide
end Go.Pkt
namespace Go.Proofs.Ytmmbcgbadaojeaa
open Go.RowKit Go.Sec Go.Oct Go.Pkt Go.Aes BigFrame

set_option maxRecDepth 100000 in
set_option maxHeartbeats 2000000 in
theorem known18_any (w : World) : Calls Try.prog 23 #[] w fun e w' => e = .returned (.bool true) ∧ Ext w w' := by
  have hask := fun W => pask_any 7 W
  rw [show n64 7 = 7 from rfl] at hask
  have hmk := run_make_by U 32 32 (Nat.le_refl _) (by omega)
  have hmk16 := run_make_by U 16 16 (Nat.le_refl _) (by omega)
  simp only [Int.cast_ofNat_Int] at hmk hmk16
  go_enter Try.func23, Try.ntmps23
  go_wp2_with fail
  refine nameCl ?_
  intro W hW
  have hE : Ext w W := by rw [hW]; exact (by repeat (first | (with_reducible first | exact Ext.refl _ | assumption | apply Ext.alloc | apply Ext.ext | apply Ext.drew | refine Ext.setCell ?_ ?_ _) | (focus (simp [go_sem]; done))))
  have hK : Sl W (some ⟨w.heap.size, 0, none⟩) 32 z32 := by rw [hW]; exact (blk_zeros8 w 32).sl rfl
  clear hW
  (with_reducible refine (hask W).mono ?_)
  rintro e w1 ⟨rfl, hx1⟩
  have hE1 := hE.trans hx1
  have hK1 := hK.ext hx1
  clear hE hK hx1 hask
  go_wp2_with (first
    | (refine wpList_alloc_store (RP16) rfl rfl _ _ rfl rfl rfl rfl (by simp [Act.put]) ([.int .i64 0, .int .i64 4, .int .i64 3, .int .i64 0, .int .i64 6, .int .i64 0, .int .u32 0, .int .u32 0, .int .u32 0, .int .u64 0, .int .u64 0, .int .u64 0, .int .u64 7, .slice none 0 0, .slice none 0 0, .bool false]) rfl (by simp) (rfl) ((by simp; repeat' (first | rfl | constructor))) ?_; intro x hz _)
    | fail)
  refine nameW ?_
  intro W2 hW2
  have hx2 : Ext w1 W2 := by rw [hW2]; exact (by repeat (first | (with_reducible first | exact Ext.refl _ | assumption | apply Ext.alloc | apply Ext.ext | apply Ext.drew | refine Ext.setCell ?_ ?_ _) | (focus (simp [go_sem]; done))))
  have hB2 : Blk W2 w1.heap.size 58 [.int .i64 p18.h.leap, .int .i64 p18.h.ver, .int .i64 p18.h.mode, .int .i64 p18.h.strat, .int .i64 p18.h.poll, .int .i64 p18.h.prec, .int .u32 (n32 p18.h.rd), .int .u32 (n32 p18.h.rp), .int .u32 (n32 p18.h.id), .int .u64 (n64 p18.h.ref), .int .u64 (n64 p18.h.org), .int .u64 (n64 p18.h.rcv), .int .u64 (n64 p18.h.tx), .slice none 0 0, .slice none 0 0, .bool p18.guarded] := by rw [hW2]; exact hz.extB (by repeat (first | (with_reducible first | exact Ext.refl _ | assumption | apply Ext.alloc | apply Ext.ext | apply Ext.drew | refine Ext.setCell ?_ ?_ _) | (focus (simp [go_sem]; done))))
  have hE2 := hE1.trans hx2
  have hK2 := hK1.ext hx2
  clear hW2 hx2 hz hE1 hK1
  have hpr := fun a' c' W H1 H2 => pprotect_any (some ⟨w.heap.size, 0, none⟩) a' none none 32 32 16 c' 0 0 0 0 p18 z32 z16 W H1 (Nat.le_refl _) H2
  have prd : ∀ a' W, Sl W (some ⟨w.heap.size, 0, none⟩) 32 z32 → Sl W a' 16 z16 → Calls Try.prog 28 #[.slice (some ⟨w.heap.size, 0, none⟩) 32 32, .agg #[.int .i64 p18.h.leap, .int .i64 p18.h.ver, .int .i64 p18.h.mode, .int .i64 p18.h.strat, .int .i64 p18.h.poll, .int .i64 p18.h.prec, .int .u32 (n32 p18.h.rd), .int .u32 (n32 p18.h.rp), .int .u32 (n32 p18.h.id), .int .u64 (n64 p18.h.ref), .int .u64 (n64 p18.h.org), .int .u64 (n64 p18.h.rcv), .int .u64 (n64 p18.h.tx), .slice none 0 0, .slice none 0 0, .bool p18.guarded], .slice a' 16 16] W (Read2 88 b18 (.int .i64 0) W) := fun a' W H1 H2 => by
    have := hpr a' 16 W H1 H2 (Nat.le_refl _) (by omega) (Ib.nil _ _) (by omega) (by intro f hf; cases hf) (Ib.nil _ _) (by omega) (by intro f hf; cases hf)
    rw [prot18] at this
    rwa [show (b18, (0 : Int)).1.length = 88 from b18_len] at this
  haveI := hB2.blt
  refine wp_region_vague 8 [[], [], [], [0, 1, 2], [0, 1, 2, 3], [0, 1, 2, 3, 4], [0, 1, 2, 3, 4], [0, 1, 2, 3, 4, 5], [0, 1, 2, 3, 4, 5, 6, 7]] (by kernel_rfl) (by kernel_rfl) (by kernel_rfl) (by kernel_rfl) ?_; simp only [List.take_succ_cons, List.take_zero, List.drop_succ_cons, List.drop_zero, List.take_nil, List.drop_nil]
  (repeat (apply VD_der; (case h => (intro us w' hx hf; obtain ⟨x, rfl⟩ := hx.out; refine ⟨rfl, ?_⟩; simp [go_sem, execOp, *]; (try simp (disch := omega) only [Go.IntWalk.i64_in, Go.IntWalk.rem_in, Go.IntWalk.wrap64_in]); rfl)); (try simp only [Act.put, List.setIfInBounds_toArray, List.set_cons_succ, List.set_cons_zero])))
  (refine VD_load_arr (RP16) _ rfl (fun _ => rfl) (w1.heap.size) (0) (fun _ => by simp [go_sem]) ([.int .i64 p18.h.leap, .int .i64 p18.h.ver, .int .i64 p18.h.mode, .int .i64 p18.h.strat, .int .i64 p18.h.poll, .int .i64 p18.h.prec, .int .u32 (n32 p18.h.rd), .int .u32 (n32 p18.h.rp), .int .u32 (n32 p18.h.id), .int .u64 (n64 p18.h.ref), .int .u64 (n64 p18.h.org), .int .u64 (n64 p18.h.rcv), .int .u64 (n64 p18.h.tx), .slice none 0 0, .slice none 0 0, .bool p18.guarded]) (hB2.rd) (rfl) ?_)
  (refine VD_vag (fun p => .slice (p 0).1 (16) (16)) (fun p w'' => Sl w'' (p 0).1 (16) (z16)) (fun p w w' h hx => h.ext hx) (fun us w' hx hf => ⟨rfl, ?_⟩) ?_; (unfold gives; simp [go_sem, execOp, hmk16]; exact ⟨fun _ => (some ⟨w'.heap.size, 0, none⟩, 0), rfl, Ext.of_alloc _ _, (blk_zeros8 _ _).sl rfl⟩))
  (refine VD_vag (fun p => .tuple #[.slice (p 0).1 (88) (p 0).2, .int .i64 0]) (fun p w'' => Sl w'' (p 0).1 (88) (b18) ∧ (88) ≤ (p 0).2) (fun p w w' h hx => ⟨h.1.ext hx, h.2⟩) (fun us w' hx hf => ⟨rfl, ?_⟩) ?_; (unfold gives; simp [go_sem, execOp]; exact vag_read (prd _ _ (hK2.ext hx) (hf _ (List.mem_append_right _ (List.mem_singleton_self _)) rfl))))
  (repeat (apply VD_der; (case h => (intro us w' hx hf; obtain ⟨x, rfl⟩ := hx.out; refine ⟨rfl, ?_⟩; simp [go_sem, execOp, *]; (try simp (disch := omega) only [Go.IntWalk.i64_in, Go.IntWalk.rem_in, Go.IntWalk.wrap64_in]); rfl)); (try simp only [Act.put, List.setIfInBounds_toArray, List.set_cons_succ, List.set_cons_zero])))
  (refine VD_nil ?_; intro us w' hx hf; obtain ⟨x, rfl⟩ := hx.out; (try simp only [Act.put, List.setIfInBounds_toArray, List.set_cons_succ, List.set_cons_zero, wpList_none]); (try simp only [List.mem_cons, List.not_mem_nil, or_false, forall_eq_or_imp, forall_eq, List.nil_append, List.cons_append, List.mem_append, false_or, true_and, and_true] at hf); (try simp only [Nat.reduceAdd, Nat.zero_add] at hf); (try simp only [Nat.reduceAdd, Nat.zero_add]))
  obtain ⟨-, hS3, hc3⟩ := hf
  obtain ⟨a3, ha3⟩ : ∃ a, (us 3 0).1 = a := ⟨_, rfl⟩
  obtain ⟨c3, hc3'⟩ : ∃ a, (us 3 0).2 = a := ⟨_, rfl⟩
  rw [ha3] at hS3 ⊢
  rw [hc3'] at hc3 ⊢
  clear ha3 hc3' hpr prd hmk hmk16
  have hxx : Ext W2 (W2.ext x) := Ext.of_ext _ _
  have hE3 := hE2.trans hxx
  have hB3 := hB2.extB hxx
  have hK3 := hK2.ext hxx
  clear hE2 hB2 hK2 hxx
  generalize W2.ext x = W3 at *
  haveI := hB3.blt
  go_wp2_with fail
  (with_reducible refine (popenp_any (some ⟨w.heap.size, 0, none⟩) a3 32 32 88 c3 z32 b18 W3 hK3 (Nat.le_refl _) hS3 hc3 (by omega)).mono ?_)
  rw [open18]
  rintro e w4 ⟨a4, n4, c4, a5, n5, c5, rfl, -, -, -, -, hx4⟩
  have hE4 := hE3.trans hx4
  have hB4 := hB3.extB hx4
  clear hE3 hB3 hK3 hS3 hx4
  dsimp only
  haveI := hB4.blt
  have hlen := fun W => plength_any none none 0 0 0 0 [] [] W (Rd.nil _ _) rfl (by omega) (Rd.nil _ _) rfl (by omega)
  rw [len18] at hlen
  go_wp2_with (first
    | ((refine wpList_alloc_store (RP16) rfl rfl _ _ rfl rfl rfl rfl (by simp [Act.put]) ([.int .i64 p18.h.leap, .int .i64 p18.h.ver, .int .i64 p18.h.mode, .int .i64 p18.h.strat, .int .i64 p18.h.poll, .int .i64 p18.h.prec, .int .u32 (n32 p18.h.rd), .int .u32 (n32 p18.h.rp), .int .u32 (n32 p18.h.id), .int .u64 (n64 p18.h.ref), .int .u64 (n64 p18.h.org), .int .u64 (n64 p18.h.rcv), .int .u64 (n64 p18.h.tx), .slice a4 n4 c4, .slice a5 n5 c5, .bool true]) rfl (by simp) (rfl) ((by simp; repeat' (first | rfl | constructor))) ?_; intro x hz _); haveI := hz.blt; have f15 := hz.cell? 15 rfl)
    | (go_at_call 24; refine (hlen _).mono ?_; rintro e w1 ⟨rfl, hxq⟩; obtain ⟨xq, rfl⟩ := hxq.out; clear hxq)
    | (refine wpList_wanted (by simp [Region.wanted, yielded, Act.put]) ?_; (refine wpList_load_arr (RH13) rfl _ rfl (w4.heap.size) (0) rfl ([.int .i64 p18.h.leap, .int .i64 p18.h.ver, .int .i64 p18.h.mode, .int .i64 p18.h.strat, .int .i64 p18.h.poll, .int .i64 p18.h.prec, .int .u32 (n32 p18.h.rd), .int .u32 (n32 p18.h.rp), .int .u32 (n32 p18.h.id), .int .u64 (n64 p18.h.ref), .int .u64 (n64 p18.h.org), .int .u64 (n64 p18.h.rcv), .int .u64 (n64 p18.h.tx)]) ((Rd.left (vs := [.int .i64 p18.h.leap, .int .i64 p18.h.ver, .int .i64 p18.h.mode, .int .i64 p18.h.strat, .int .i64 p18.h.poll, .int .i64 p18.h.prec, .int .u32 (n32 p18.h.rd), .int .u32 (n32 p18.h.rp), .int .u32 (n32 p18.h.id), .int .u64 (n64 p18.h.ref), .int .u64 (n64 p18.h.org), .int .u64 (n64 p18.h.rcv), .int .u64 (n64 p18.h.tx)]) (us := [.slice a4 n4 c4, .slice a5 n5 c5, .bool true]) (hz.extB (by repeat (first | (with_reducible first | exact Ext.refl _ | assumption | apply Ext.alloc | apply Ext.ext | apply Ext.drew | refine Ext.setCell ?_ ?_ _) | (focus (simp [go_sem]; done))))).rd)) (rfl) ?_))
    | (refine wpList_wanted (by simp [Region.wanted, yielded, Act.put]) ?_; (refine wpList_load_arr (RH13) rfl _ rfl (w1.heap.size) (0) rfl ([.int .i64 p18.h.leap, .int .i64 p18.h.ver, .int .i64 p18.h.mode, .int .i64 p18.h.strat, .int .i64 p18.h.poll, .int .i64 p18.h.prec, .int .u32 (n32 p18.h.rd), .int .u32 (n32 p18.h.rp), .int .u32 (n32 p18.h.id), .int .u64 (n64 p18.h.ref), .int .u64 (n64 p18.h.org), .int .u64 (n64 p18.h.rcv), .int .u64 (n64 p18.h.tx)]) ((Rd.left (vs := [.int .i64 p18.h.leap, .int .i64 p18.h.ver, .int .i64 p18.h.mode, .int .i64 p18.h.strat, .int .i64 p18.h.poll, .int .i64 p18.h.prec, .int .u32 (n32 p18.h.rd), .int .u32 (n32 p18.h.rp), .int .u32 (n32 p18.h.id), .int .u64 (n64 p18.h.ref), .int .u64 (n64 p18.h.org), .int .u64 (n64 p18.h.rcv), .int .u64 (n64 p18.h.tx)]) (us := [.slice none 0 0, .slice none 0 0, .bool p18.guarded]) (hB4.extB (by repeat (first | (with_reducible first | exact Ext.refl _ | assumption | apply Ext.alloc | apply Ext.ext | apply Ext.drew | refine Ext.setCell ?_ ?_ _) | (focus (simp [go_sem]; done))))).rd)) (rfl) ?_))
    | fail)
  go_ret
  exact ⟨rfl, hE4.trans (by repeat (first | (with_reducible first | exact Ext.refl _ | assumption | apply Ext.alloc | apply Ext.ext | apply Ext.drew | refine Ext.setCell ?_ ?_ _) | (focus (simp [go_sem]; done))))⟩
end Go.Proofs.Ytmmbcgbadaojeaa

/- sectimeworld.Field, Fields. -/
namespace Go.Pkt
/-- The types of fields that the statements draw. -/
def kindN (s : Nat) : Int := [260, 516, 772, 8192].getD s 0
def wfld (x : Int × List UInt8) (m : Nat) : Fld := (kindN (x.1 % 4).toNat, x.2.take m)
def wflds (L : List (Int × List UInt8)) : List Fld := (L.take 4).map fun x => wfld x 60
end Go.Pkt
namespace Go.Proofs.Ytmmbcgbadaojeaa
open Go.RowKit Go.Sec Go.Oct Go.Pkt BigFrame

/-- A field in memory. -/
def FldOut (f : Fld) (w : World) (e : Ending) (w' : World) : Prop := ∃ a c, e = .returned (.agg #[.int .i64 f.1, .slice a f.2.length c]) ∧ Own w' 0 a f.2.length c f.2 ∧ Ext w w'
theorem four_at {w : World} {b s : Nat} (h : Rd w (some ⟨b, 0, none⟩) [.int .i64 260, .int .i64 516, .int .i64 772, .int .i64 8192]) (hs : (s : Int) < 4) : ∃ p : Par, (some (⟨b, s, none⟩ : Addr)) = (p 0).1 ∧ Ext w w ∧ ∃ b, (p 0).1 = some ⟨b, s, none⟩ ∧ BlkLt b w ∧ w.cell? ⟨b, s, none⟩ = some (.int .i64 (kindN s)) := by
  obtain ⟨b', o, e, hb, hc⟩ := h.at s (by simp; omega)
  injection e with e; injection e with e1 e2
  subst e1
  refine ⟨fun _ => (some ⟨b, s, none⟩, 0), rfl, Ext.refl _, b, rfl, hb, ?_⟩
  rw [← e2, Nat.zero_add] at hc
  rw [hc]
  have : s = 0 ∨ s = 1 ∨ s = 2 ∨ s = 3 := by omega
  rcases this with rfl | rfl | rfl | rfl <;> rfl
set_option maxRecDepth 100000 in
set_option maxHeartbeats 2000000 in
theorem wfield_any (v : Int) (a : Option Addr) (n c : Nat) (l : List UInt8) (w : World) (h : Sl w a n l) (hc : n ≤ c) :
    Calls Try.prog 58 #[.int .i64 v, .slice a n c, .int .i64 60] w (FldOut (wfld (v, l) 60) w) := by
  obtain ⟨s, hs, hsv⟩ := nmod v 4 (by omega)
  have hsv : v % 4 = (s : Int) := hsv
  have hwf : wfld (v, l) 60 = (kindN s, l.take 60) := by unfold wfld; simp only; rw [hsv]; rfl
  rw [hwf]
  have hl := h.len
  have hln : (l.take 60).length = min n 60 := by rw [List.length_take, hl]; omega
  have hin := fun W => within_any v 4 W (by omega) (by omega)
  rw [hsv] at hin
  have hfw := fun W H => few_any a n c l 60 (show (60 : Int) = ((60 : Nat) : Int) from rfl) W H hc (by omega)
  have hs0 : (0 : Int) ≤ (s : Int) := by omega
  have hs4 : (s : Int) < 4 := by omega
  go_enter Try.func58, Try.ntmps58
  go_wp2_with fail
  refine nameW ?_
  intro W hW
  have hE : Ext w W := by rw [hW]; exact (by repeat (first | (with_reducible first | exact Ext.refl _ | assumption | apply Ext.alloc | apply Ext.ext | apply Ext.drew | refine Ext.setCell ?_ ?_ _) | (focus (simp [go_sem]; done))))
  have hB : Blk W w.heap.size 60 [.int .i64 0, .slice none 0 0] := by rw [hW]; exact (by repeat (first | assumption | (refine Blk.newAt _ _ _ _ ?_; first | rfl | (simp only [World.size_alloc]; done)) | apply Blk.ext | apply Blk.alloc | (refine Blk.other ?_ ?_ _; rotate_left; (simp <;> omega))))
  clear hW
  have h := h.ext hE
  refine wp_region_vague 9 [[], [], [1], [0, 1, 2], [0, 1, 2, 3], [], [], [1, 2, 5, 6], [0, 1, 2, 3, 4, 5, 6, 7], [0, 1, 2, 3, 4, 5, 6, 7, 8]] (by kernel_rfl) (by kernel_rfl) (by kernel_rfl) (by kernel_rfl) ?_; simp only [List.take_succ_cons, List.take_zero, List.drop_succ_cons, List.drop_zero, List.take_nil, List.drop_nil]
  (refine VD_vag (fun p => .slice (p 0).1 4 4) (fun p w'' => ∃ b, (p 0).1 = some ⟨b, 0, none⟩ ∧ Rd w'' (some ⟨b, 0, none⟩) [.int .i64 260, .int .i64 516, .int .i64 772, .int .i64 8192]) (fun p w w' ⟨b, h1, h2⟩ hx => ⟨b, h1, h2.ext hx⟩) (fun us w' hx hf => ⟨rfl, ?_⟩) ?_; (unfold gives; simp [go_sem, execOp]; exact ⟨fun _ => (some ⟨w'.heap.size, 0, none⟩, 0), rfl, Ext.of_alloc _ _, _, rfl, (Blk.new _ _ _).rd⟩))
  (repeat (apply VD_der; (case h => (intro us w' hx hf; obtain ⟨x, rfl⟩ := hx.out; refine ⟨rfl, ?_⟩; simp [go_sem, execOp, *]; (try simp (disch := omega) only [Go.IntWalk.i64_in, Go.IntWalk.rem_in, Go.IntWalk.wrap64_in]); rfl)); (try simp only [Act.put, List.setIfInBounds_toArray, List.set_cons_succ, List.set_cons_zero])))
  (refine VD_vag (fun _ => .int .i64 ((s : Nat) : Int)) (fun _ _ => True) (fun _ _ _ _ _ => trivial) (fun us w' hx hf => ⟨rfl, ?_⟩) ?_; (unfold gives; simp [go_sem, execOp]; refine (hin _).mono ?_; rintro e w1 ⟨rfl, hx1⟩; first | exact ⟨rfl, hx1⟩ | simpa using hx1))
  (refine VD_vag (fun p => .pointer (p 0).1) (fun p w'' => ∃ b, (p 0).1 = some ⟨b, s, none⟩ ∧ BlkLt b w'' ∧ w''.cell? ⟨b, s, none⟩ = some (.int .i64 (kindN s))) (fun p w w' ⟨b, h1, h2, h3⟩ hx => ⟨b, h1, ⟨Nat.lt_of_lt_of_le h2.lt hx.size⟩, (hx.cell (p := ⟨b, s, none⟩) h2.lt).trans h3⟩) (fun us w' hx hf => ⟨rfl, ?_⟩) ?_; (unfold gives; obtain ⟨b, e1, e2⟩ := (hf _ (List.mem_append_left _ (List.mem_append_right _ (List.mem_singleton_self _))) rfl); simp [go_sem, execOp, e1, hs0, hs4]; exact four_at e2 hs4))
  (refine VD_vag (fun _ => .int .i64 (kindN s)) (fun _ _ => True) (fun _ _ _ _ _ => trivial) (fun us w' hx hf => ⟨rfl, ?_⟩) ?_; (unfold gives; obtain ⟨b, e1, e2, e3⟩ := (hf _ (List.mem_append_right _ (List.mem_singleton_self _)) rfl); haveI := e2; simp [go_sem, execOp, e1, e3]; exact Ext.refl _))
  (repeat (apply VD_der; (case h => (intro us w' hx hf; obtain ⟨x, rfl⟩ := hx.out; refine ⟨rfl, ?_⟩; simp [go_sem, execOp, *]; (try simp (disch := omega) only [Go.IntWalk.i64_in, Go.IntWalk.rem_in, Go.IntWalk.wrap64_in]); rfl)); (try simp only [Act.put, List.setIfInBounds_toArray, List.set_cons_succ, List.set_cons_zero])))
  (refine VD_vag (fun p => .slice (p 0).1 (min n 60) (p 0).2) (fun p w'' => Own w'' 0 (p 0).1 (min n 60) (p 0).2 (l.take 60)) (fun p w w' h hx => h.ext hx) (fun us w' hx hf => ⟨rfl, ?_⟩) ?_; (unfold gives; simp [go_sem, execOp]; exact vag_fresh (Nat.zero_le _) (hfw _ (h.ext hx))))
  (repeat (apply VD_der; (case h => (intro us w' hx hf; obtain ⟨x, rfl⟩ := hx.out; refine ⟨rfl, ?_⟩; simp [go_sem, execOp, *]; (try simp (disch := omega) only [Go.IntWalk.i64_in, Go.IntWalk.rem_in, Go.IntWalk.wrap64_in]); rfl)); (try simp only [Act.put, List.setIfInBounds_toArray, List.set_cons_succ, List.set_cons_zero])))
  (refine VD_nil ?_; intro us w' hx hf; obtain ⟨x, rfl⟩ := hx.out; (try simp only [Act.put, List.setIfInBounds_toArray, List.set_cons_succ, List.set_cons_zero, wpList_none]); (try simp only [List.mem_cons, List.not_mem_nil, or_false, forall_eq_or_imp, forall_eq, List.nil_append, List.cons_append, List.mem_append, false_or, true_and, and_true] at hf); (try simp only [Nat.reduceAdd, Nat.zero_add] at hf); (try simp only [Nat.reduceAdd, Nat.zero_add]))
  obtain ⟨-, -, hO⟩ := hf
  obtain ⟨a7, ha7⟩ : ∃ a, (us 7 0).1 = a := ⟨_, rfl⟩
  obtain ⟨c7, hc7⟩ : ∃ a, (us 7 0).2 = a := ⟨_, rfl⟩
  rw [ha7] at hO ⊢
  rw [hc7] at hO ⊢
  clear ha7 hc7
  have hxx : Ext W (W.ext x) := Ext.of_ext _ _
  have hB := hB.extB hxx
  have hE := hE.trans hxx
  generalize W.ext x = W6 at *
  haveI := hB.blt
  clear hxx hin hfw
  go_wp2_with (first
    | (refine wpList_store_arr (RF2) rfl _ _ rfl (w.heap.size) (0) rfl ([.int .i64 (kindN s), .slice a7 (min n 60) c7]) rfl (60) _ (hB) (rfl) (by simp) ((by simp; repeat' (first | rfl | constructor))) ?_; intro V hV hMV)
    | fail)
  refine bodyPost_ret (results_arr Try.results58 (RF2) _ _ (w.heap.size) (0) ([.int .i64 (kindN s), .slice a7 (min n 60) c7]) rfl (hV.rd) (rfl)) rfl ?_
  have hOV := hO.mutNe hMV (own_type hO.2 hB (by decide))
  exact ⟨a7, c7, by rw [hln], by rw [hln]; exact hOV, Below.trans hE (hMV.below (Nat.le_refl _) hE.size)⟩

theorem wflds_length (L : List (Int × List UInt8)) : (wflds L).length = min L.length 4 := by unfold wflds; rw [List.length_map, List.length_take]; omega
set_option maxRecDepth 100000 in
set_option maxHeartbeats 2000000 in
theorem wfields_any (a : Option Addr) (n c : Nat) (L : List (Int × List UInt8)) (w : World) (h : Ib w a n L) :
    Calls Try.prog 27 #[.slice a n c] w fun e w' => ∃ b d, e = .returned (.slice b (wflds L).length d) ∧ OwnI 60 w' w.heap.size b (wflds L).length d (wflds L) ∧ Ext w w' := by
  have hl := h.len
  have hwl := wflds_length L
  rw [hl] at hwl
  have hts : ∀ k x, L[k]? = some x → k < 4 → (wflds L).take (k + 1) = (wflds L).take k ++ [wfld x 60] := fun k x hx h4 => by
    obtain ⟨hk, rfl⟩ := List.getElem?_eq_some_iff.1 hx
    have hk2 : k < (wflds L).length := by omega
    rw [List.take_succ_eq_append_getElem hk2]
    congr 2
    unfold wflds
    simp
  obtain ⟨F, hF⟩ : ∃ F, wflds L = F := ⟨_, rfl⟩
  rw [hF] at hts hwl ⊢
  clear hF
  obtain ⟨m, hm⟩ : ∃ m, min n 4 = m := ⟨_, rfl⟩
  rw [hm] at hwl
  go_enter Try.func27, Try.ntmps27
  go_wp2_with fail
  go_loopw [3, 4] (fun v3 v4 wr => ∃ (k : Nat) (sa : Option Addr) (sc : Nat), k ≤ m ∧ v4 = .int .i64 k ∧ v3 = .slice sa k sc ∧ OwnI 60 wr w.heap.size sa k sc (F.take k) ∧ Ext w wr) (fun _ v4 _ => m - (intOf v4).toNat)
  case atStart => exact ⟨0, none, 0, by omega, rfl, rfl, OwnI.nil _ _ _, Ext.refl _⟩
  case round =>
    obtain ⟨k, sa, sc, hk, rfl, rfl, hO, hx⟩ := hrel
    by_cases hlt : k < m
    · obtain ⟨x, hxi⟩ : ∃ x, L[k]? = some x := ⟨_, List.getElem?_eq_getElem (by omega)⟩
      obtain ⟨b0, o0, g', c', rfl, hbw, hw0, hw1, hSk, hck⟩ := h.at k (by omega) _ hxi
      have hb0 : BlkLt b0 wr := ⟨Nat.lt_of_lt_of_le hbw.lt hx.size⟩
      have hc0 := (hx.cell (p := ⟨b0, _, none⟩) hbw.lt).trans hw0
      have hc1 := (hx.cell (p := ⟨b0, _, none⟩) hbw.lt).trans hw1
      have hSk := hSk.ext hx
      have i0 : (0 : Int) ≤ (k : Int) := by omega
      have i1 : (k : Int) < (n : Int) := by omega
      have i2 : (k : Int) < 4 := by omega
      have hF1 := Lib.hid (hts k x hxi (by omega))
      haveI := hb0
      have hfd : ∀ W, Sl W g' x.2.length x.2 → Calls Try.prog 58 #[.int .i64 x.1, .slice g' x.2.length c', .int .i64 60] W (FldOut (wfld x 60) W) := fun W H => wfield_any x.1 g' x.2.length c' x.2 W H hck
      generalize wfld x 60 = f at *
      go_wp2_with fail
      have hcc : ∀ w', Ext wr w' → w'.cell? ⟨b0, o0 + k * 2, none⟩ = some (.int .i64 x.1) ∧ w'.cell? ⟨b0, o0 + k * 2 + 1, none⟩ = some (.slice g' x.2.length c') := fun w' hx => ⟨(hx.cell (p := ⟨b0, _, none⟩) hb0.lt).trans hc0, (hx.cell (p := ⟨b0, _, none⟩) hb0.lt).trans hc1⟩
      have hSE : ∀ w', Ext (wr) w' → (fun w' => w'.cell? ⟨b0, o0 + k * 2, none⟩ = some (.int .i64 x.1) ∧ w'.cell? ⟨b0, o0 + k * 2 + 1, none⟩ = some (.slice g' x.2.length c')) w' := hcc; have hExt0 : Ext (wr) (wr).drew := Ext.drew (Ext.refl _); refine wp_region_held_drew (S := fun w' => w'.cell? ⟨b0, o0 + k * 2, none⟩ = some (.int .i64 x.1) ∧ w'.cell? ⟨b0, o0 + k * 2 + 1, none⟩ = some (.slice g' x.2.length c')) (by kernel_rfl) (hSE _ hExt0) (fun hHeld => ?_)
      refine wpAnyH_take (i := 0) (v := ?v78) rfl (by kernel_rfl) (by kernel_rfl) (by kernel_rfl) (fun _ _ _ h => h) (Or.inl ⟨by rfl, ?hy78⟩) hHeld ?_; (case hy78 => (intro w' hx; simp [go_sem, execOp, *]; (try simp (disch := omega) only [Go.IntWalk.i64_in, Go.IntWalk.rem_in, Go.IntWalk.wrap64_in]); rfl)); (try simp only [List.getElem_toArray, List.getElem_cons_succ, List.getElem_cons_zero, Act.put, List.setIfInBounds_toArray, List.set_cons_succ, List.set_cons_zero])
      refine wpAnyH_take (i := 1) (v := ?v79) rfl (by kernel_rfl) (by kernel_rfl) (by kernel_rfl) (fun _ _ _ h => h) (Or.inl ⟨by rfl, ?hy79⟩) hHeld ?_; (case hy79 => (intro w' hx; simp [go_sem, execOp, *]; (try simp (disch := omega) only [Go.IntWalk.i64_in, Go.IntWalk.rem_in, Go.IntWalk.wrap64_in]); rfl)); (try simp only [List.getElem_toArray, List.getElem_cons_succ, List.getElem_cons_zero, Act.put, List.setIfInBounds_toArray, List.set_cons_succ, List.set_cons_zero])
      refine wpAnyH_take (i := 2) (v := ?v80) rfl (by kernel_rfl) (by kernel_rfl) (by kernel_rfl) (fun _ _ _ h => h) (Or.inl ⟨by rfl, ?hy80⟩) hHeld ?_; (case hy80 => (intro w' hx; simp [go_sem, execOp, *]; (try simp (disch := omega) only [Go.IntWalk.i64_in, Go.IntWalk.rem_in, Go.IntWalk.wrap64_in]); rfl)); (try simp only [List.getElem_toArray, List.getElem_cons_succ, List.getElem_cons_zero, Act.put, List.setIfInBounds_toArray, List.set_cons_succ, List.set_cons_zero])
      refine wpAnyH_take (i := 3) (v := ?v81) rfl (by kernel_rfl) (by kernel_rfl) (by kernel_rfl) (fun _ _ _ h => h) (Or.inl ⟨by rfl, ?hy81⟩) hHeld ?_; (case hy81 => (intro w' hx; simp [go_sem, execOp, *]; (try simp (disch := omega) only [Go.IntWalk.i64_in, Go.IntWalk.rem_in, Go.IntWalk.wrap64_in]); rfl)); (try simp only [List.getElem_toArray, List.getElem_cons_succ, List.getElem_cons_zero, Act.put, List.setIfInBounds_toArray, List.set_cons_succ, List.set_cons_zero])
      refine wpAnyH_take (i := 4) (v := ?v82) rfl (by kernel_rfl) (by kernel_rfl) (by kernel_rfl) (fun _ _ _ h => h) (Or.inl ⟨by rfl, ?hy82⟩) hHeld ?_; (case hy82 => (intro w' hx; simp [go_sem, execOp, *]; (try simp (disch := omega) only [Go.IntWalk.i64_in, Go.IntWalk.rem_in, Go.IntWalk.wrap64_in]); rfl)); (try simp only [List.getElem_toArray, List.getElem_cons_succ, List.getElem_cons_zero, Act.put, List.setIfInBounds_toArray, List.set_cons_succ, List.set_cons_zero])
      refine wpAnyH_take (i := 5) (v := ?v83) rfl (by kernel_rfl) (by kernel_rfl) (by kernel_rfl) (fun _ _ _ h => h) (Or.inl ⟨by rfl, ?hy83⟩) hHeld ?_; (case hy83 => (intro w' hx; simp [go_sem, execOp, *]; (try simp (disch := omega) only [Go.IntWalk.i64_in, Go.IntWalk.rem_in, Go.IntWalk.wrap64_in]); rfl)); (try simp only [List.getElem_toArray, List.getElem_cons_succ, List.getElem_cons_zero, Act.put, List.setIfInBounds_toArray, List.set_cons_succ, List.set_cons_zero])
      refine wpAnyH_take (i := 6) (v := ?v84) rfl (by kernel_rfl) (by kernel_rfl) (by kernel_rfl) (fun _ _ _ h => h) (Or.inl ⟨by rfl, ?hy84⟩) hHeld ?_; (case hy84 => (intro w' hx; simp [go_sem, execOp, *]; (try simp (disch := omega) only [Go.IntWalk.i64_in, Go.IntWalk.rem_in, Go.IntWalk.wrap64_in]); rfl)); (try simp only [List.getElem_toArray, List.getElem_cons_succ, List.getElem_cons_zero, Act.put, List.setIfInBounds_toArray, List.set_cons_succ, List.set_cons_zero])
      refine wpAnyH_take (i := 7) (v := ?v85) rfl (by kernel_rfl) (by kernel_rfl) (by kernel_rfl) (fun _ _ _ h => h) (Or.inl ⟨by rfl, ?hy85⟩) hHeld ?_; (case hy85 => (intro w' hx; simp [go_sem, execOp, *]; (try simp (disch := omega) only [Go.IntWalk.i64_in, Go.IntWalk.rem_in, Go.IntWalk.wrap64_in]); rfl)); (try simp only [List.getElem_toArray, List.getElem_cons_succ, List.getElem_cons_zero, Act.put, List.setIfInBounds_toArray, List.set_cons_succ, List.set_cons_zero])
      refine wpAnyH_take (i := 8) (v := ?v86) rfl (by kernel_rfl) (by kernel_rfl) (by kernel_rfl) (fun _ _ _ h => h) (Or.inl ⟨by rfl, ?hy86⟩) hHeld ?_; (case hy86 => (intro w' hx; simp [go_sem, execOp, *]; (try simp (disch := omega) only [Go.IntWalk.i64_in, Go.IntWalk.rem_in, Go.IntWalk.wrap64_in]); rfl)); (try simp only [List.getElem_toArray, List.getElem_cons_succ, List.getElem_cons_zero, Act.put, List.setIfInBounds_toArray, List.set_cons_succ, List.set_cons_zero])
      refine wpAnyH_take (i := 9) (v := ?v87) rfl (by kernel_rfl) (by kernel_rfl) (by kernel_rfl) (fun _ _ _ h => h) (Or.inl ⟨by rfl, ?hy87⟩) hHeld ?_; (case hy87 => (intro w' hx; simp [go_sem, execOp, *]; (try simp (disch := omega) only [Go.IntWalk.i64_in, Go.IntWalk.rem_in, Go.IntWalk.wrap64_in]); rfl)); (try simp only [List.getElem_toArray, List.getElem_cons_succ, List.getElem_cons_zero, Act.put, List.setIfInBounds_toArray, List.set_cons_succ, List.set_cons_zero])
      refine wpAnyH_take (i := 10) (v := ?v88) rfl (by kernel_rfl) (by kernel_rfl) (by kernel_rfl) (fun _ _ _ h => h) (Or.inl ⟨by rfl, ?hy88⟩) hHeld ?_; (case hy88 => (intro w' hx; simp [go_sem, execOp, *]; (try simp (disch := omega) only [Go.IntWalk.i64_in, Go.IntWalk.rem_in, Go.IntWalk.wrap64_in]); rfl)); (try simp only [List.getElem_toArray, List.getElem_cons_succ, List.getElem_cons_zero, Act.put, List.setIfInBounds_toArray, List.set_cons_succ, List.set_cons_zero])
      (refine R5.any_only 11 (by kernel_rfl) rfl rfl ?_; unfold gives; simp [go_sem, execOp])
      (with_reducible refine (hfd _ (hSk.ext hExt0)).mono ?_)
      rintro e w5 ⟨a5, c5, rfl, hO5, hx5⟩
      have hx5 : Ext wr w5 := hExt0.trans hx5
      refine ⟨_, rfl, hSE _ hx5, ?_⟩
      (try simp only [List.getElem_toArray, List.getElem_cons_succ, List.getElem_cons_zero, Act.put, List.setIfInBounds_toArray, List.set_cons_succ, List.set_cons_zero])
      (refine R5.any_only 12 (by kernel_rfl) rfl rfl ?_; unfold gives; simp [go_sem, execOp])
      have hx6 := hx5.alloc (.cells #[.int .i64 f.1, .slice a5 f.2.length c5] 60)
      refine ⟨hSE _ hx6, ?_⟩
      (try simp only [List.getElem_toArray, List.getElem_cons_succ, List.getElem_cons_zero, Act.put, List.setIfInBounds_toArray, List.set_cons_succ, List.set_cons_zero])
      refine R5.only_append_i VF 13 (by kernel_rfl) rfl rfl _ _ rfl w.heap.size sa k sc _ rfl w5.heap.size 1 f.1 a5 f.2.length c5 f.2 rfl (hO.ext hx6) (Blk.new w5 #[.int .i64 f.1, .slice a5 f.2.length c5] 60).rd (hO5.sl.ext (Ext.of_alloc _ _)) hO5.le.1 ((hO5.ext (Ext.of_alloc _ _)).inT (by decide)) (by omega) (hx.trans hx6).size ?_
      intro sa' sc' w6 hO6 hg6 hb6
      have hE6 : Ext w w6 := Below.trans (hx.trans hx6) hb6
      have hS6 : w6.cell? ⟨b0, o0 + k * 2, none⟩ = some (.int .i64 x.1) ∧ w6.cell? ⟨b0, o0 + k * 2 + 1, none⟩ = some (.slice g' x.2.length c') := ⟨(hE6.cell (p := ⟨b0, _, none⟩) hbw.lt).trans hw0, (hE6.cell (p := ⟨b0, _, none⟩) hbw.lt).trans hw1⟩
      refine ⟨hS6, ?_⟩
      (try simp only [List.getElem_toArray, List.getElem_cons_succ, List.getElem_cons_zero, Act.put, List.setIfInBounds_toArray, List.set_cons_succ, List.set_cons_zero])
      (refine R5.any_only 14 (by kernel_rfl) rfl rfl ?_; unfold gives; simp [go_sem, execOp])
      refine ⟨hS6, ?_⟩
      (try simp only [List.getElem_toArray, List.getElem_cons_succ, List.getElem_cons_zero, Act.put, List.setIfInBounds_toArray, List.set_cons_succ, List.set_cons_zero])
      refine wpAnyH_done (by kernel_rfl) ?_ _
      clear hSE hExt0 hcc hS6 hw0 hw1 hc0 hc1 hfd
      go_wp2
      go_roundw
      case rel => exact ⟨k + 1, sa', sc', by omega, by go_num, rfl, by rw [hF1.out]; exact hO6, hE6⟩
      case measure => simp [intOf]; omega
    · obtain rfl : k = m := by omega
      have hFk : F.take k = F := List.take_of_length_le (by omega)
      rw [hFk] at hO
      by_cases h4 : k < n
      · have i1 : (k : Int) < (n : Int) := by omega
        have i2 : ¬ (k : Int) < 4 := by omega
        clear hm hlt
        go_wp2_with fail
        go_ret
        exact ⟨sa, sc, rfl, hO, hx⟩
      · have i1 : ¬ (k : Int) < (n : Int) := by omega
        clear hm hlt
        go_wp2_with fail
        go_ret
        exact ⟨sa, sc, rfl, hO, hx⟩
end Go.Proofs.Ytmmbcgbadaojeaa

/- Layer 18: what the statements draw fits; the law ProtectHides. -/
namespace Go.Pkt
open Go.Oct Go.Aes Go.Sec
theorem kindN_in (s : Nat) : kindN s = 260 ∨ kindN s = 516 ∨ kindN s = 772 ∨ kindN s = 8192 ∨ kindN s = 0 := by
  unfold kindN
  match s with
  | 0 => simp
  | 1 => simp
  | 2 => simp
  | 3 => simp
  | s + 4 => simp
theorem wflds_in {L : List (Int × List UInt8)} {f : Fld} (h : f ∈ wflds L) : (0 ≤ f.1 ∧ f.1 ≤ 65535) ∧ f.1 ≠ 1028 ∧ f.2.length ≤ 60 := by
  obtain ⟨x, _, rfl⟩ := List.mem_map.1 h
  have h1 := kindN_in (x.1 % 4).toNat
  refine ⟨?_, ?_, ?_⟩
  · simp only [wfld]; omega
  · simp only [wfld]; omega
  · simp only [wfld, List.length_take]; omega
theorem totN_le {L : List Fld} {m : Nat} (h : ∀ f ∈ L, szN f.2.length ≤ m) : totN L ≤ L.length * m := by
  induction L with
  | nil => simp [totN]
  | cons f L ih =>
    rw [totN_cons, List.length_cons, Nat.succ_mul]
    have h1 := h f (List.mem_cons_self ..)
    have h2 := ih fun g hg => h g (List.mem_cons_of_mem _ hg)
    omega
theorem wflds_sz {L : List (Int × List UInt8)} {f : Fld} (h : f ∈ wflds L) : szN f.2.length ≤ 64 := by
  have := (wflds_in h).2.2
  unfold szN; omega
theorem wflds_len (L : List (Int × List UInt8)) : (wflds L).length ≤ 4 := by unfold wflds; rw [List.length_map, List.length_take]; omega
theorem wflds_tot (L : List (Int × List UInt8)) : totN (wflds L) ≤ 256 := by
  have h1 := totN_le (L := wflds L) (m := 64) fun f hf => wflds_sz hf
  have h2 := wflds_len L
  omega
theorem wflds_fits (t : UInt64) (A B : List (Int × List UInt8)) (g : Bool) (nn : Nat) (hn : 16 ≤ nn ∧ nn ≤ 32) : Fits ⟨askH t, wflds A, wflds B, g⟩ nn where
  h := askH_ok t
  f1 := fun f hf => ⟨(wflds_in hf).1, Nat.le_trans (wflds_sz hf) (by omega)⟩
  f2 := fun f hf => ⟨(wflds_in hf).1, Nat.le_trans (wflds_sz hf) (by omega)⟩
  a := fun f hf => (wflds_in hf).2.1
  n1 := by have := wflds_len A; show (wflds A).length < 24; omega
  n2 := by have := wflds_len B; show (wflds B).length ≤ 24; omega
  n0 := hn
  t := by
    have h1 := wflds_tot A
    have h2 := wflds_tot B
    show 48 + totN (wflds A) + (8 + pad4 nn + pad4 (16 + totN (wflds B))) ≤ 1280
    unfold pad4; omega
  t2 := by have := wflds_tot B; show totN (wflds B) ≤ 1232; omega
theorem bare_wflds (t : UInt64) (A : List (Int × List UInt8)) : bareE ⟨askH t, wflds A, [], false⟩ = (hdrB (askH t) ++ bytesF (wflds A), 0) := by
  have h := (fits_open (wflds_fits t A [] false 16 (by omega))).2.2.2
  rw [bareE_ok (by show (openB (askH t) (wflds A)).2 = 0; rw [h]) (by simp)]
  exact h
end Go.Pkt
namespace Go.Proofs.Ytmmbcgbadaojeaa
open Go.RowKit Go.Sec Go.Oct Go.Pkt Go.Aes Go.Sha BigFrame

set_option maxRecDepth 100000 in
theorem rask_any (t : UInt64) (w : World) :
    Calls Try.prog 26 #[.int .u64 (n64 t)] w fun e w' => e = .returned (.agg #[.int .i64 0, .int .i64 4, .int .i64 3, .int .i64 0, .int .i64 6, .int .i64 0, .int .u32 0, .int .u32 0, .int .u32 0, .int .u64 0, .int .u64 0, .int .u64 0, .int .u64 (n64 t)]) ∧ Ext w w' := by
  go_enter Try.func26, Try.ntmps26
  go_wp2
  refine bodyPost_ret (results_arr Try.results26 (RH13) _ _ (w.heap.size) (0) ([.int .i64 0, .int .i64 4, .int .i64 3, .int .i64 0, .int .i64 6, .int .i64 0, .int .u32 0, .int .u32 0, .int .u32 0, .int .u64 0, .int .u64 0, .int .u64 0, .int .u64 (n64 t)]) rfl ((Blk.new _ _ _).rd) (rfl)) rfl ?_
  exact ⟨rfl, (by repeat (first | (with_reducible first | exact Ext.refl _ | assumption | apply Ext.alloc | apply Ext.ext | apply Ext.drew | refine Ext.setCell ?_ ?_ _) | (focus (simp [go_sem]; done))))⟩

/-- What Protect returns for what the statements draw. -/
def protX (s : Nat) (t : UInt64) (A B : List (Int × List UInt8)) : List UInt8 := hdrB (askH t) ++ bytesF (wflds A) ++ fldB (1028, guardB (wbytes s 16) (sealB (wbytes s 32) ⟨askH t, wflds A, wflds B, false⟩ (wbytes s 16)))
theorem prot5_any (ak an a1 a2 : Option Addr) (ck cn d1 d2 s : Nat) (A B : List (Int × List UInt8)) (w : World) (hk : Sl w ak 32 (wbytes s 32)) (hck : 32 ≤ ck) (hn : Sl w an 16 (wbytes s 16)) (hcn : 16 ≤ cn) (hI1 : Ib w a1 (wflds A).length (wflds A)) (hI2 : Ib w a2 (wflds B).length (wflds B)) :
    Calls Try.prog 28 #[.slice ak 32 ck, .agg #[.int .i64 (askH 5).leap, .int .i64 (askH 5).ver, .int .i64 (askH 5).mode, .int .i64 (askH 5).strat, .int .i64 (askH 5).poll, .int .i64 (askH 5).prec, .int .u32 (n32 (askH 5).rd), .int .u32 (n32 (askH 5).rp), .int .u32 (n32 (askH 5).id), .int .u64 (n64 (askH 5).ref), .int .u64 (n64 (askH 5).org), .int .u64 (n64 (askH 5).rcv), .int .u64 (n64 (askH 5).tx), .slice a1 (wflds A).length d1, .slice a2 (wflds B).length d2, .bool false], .slice an 16 cn] w (Read2 (protX s 5 A B).length (protX s 5 A B) (.int .i64 0) w) := by
  have lA := wflds_len A
  have lB := wflds_len B
  have := pprotect_any ak an a1 a2 32 ck 16 cn (wflds A).length d1 (wflds B).length d2 ⟨askH 5, wflds A, wflds B, false⟩ (wbytes s 32) (wbytes s 16) w hk hck hn hcn (by omega) hI1 (by omega) (fun f hf => by have := (wflds_in hf).2.2; omega) hI2 (by omega) (fun f hf => by have := (wflds_in hf).2.2; omega)
  have e := (protE_fits hk.len (wflds_fits 5 A B false _ (by rw [hn.len]; omega))).1
  rw [e] at this
  exact this
theorem protX_spec (s : Nat) (t : UInt64) (A B : List (Int × List UInt8)) : (protX s t A B).take (hdrB (askH t) ++ bytesF (wflds A)).length = hdrB (askH t) ++ bytesF (wflds A) ∧ (hdrB (askH t) ++ bytesF (wflds A)).length < (protX s t A B).length := by
  have hl := fldB_length (1028, guardB (wbytes s 16) (sealB (wbytes s 32) ⟨askH t, wflds A, wflds B, false⟩ (wbytes s 16)))
  have hz := szN_ge (guardB (wbytes s 16) (sealB (wbytes s 32) ⟨askH t, wflds A, wflds B, false⟩ (wbytes s 16))).length
  unfold protX
  refine ⟨take_app _ _ _ rfl, ?_⟩
  rw [List.length_append (bs := fldB _), hl]
  simp only
  omega
theorem bare5_any (a1 a2 : Option Addr) (d1 d2 : Nat) (A : List (Int × List UInt8)) (w : World) (hI1 : Ib w a1 (wflds A).length (wflds A)) :
    Calls Try.prog 35 #[.agg #[.int .i64 (askH 5).leap, .int .i64 (askH 5).ver, .int .i64 (askH 5).mode, .int .i64 (askH 5).strat, .int .i64 (askH 5).poll, .int .i64 (askH 5).prec, .int .u32 (n32 (askH 5).rd), .int .u32 (n32 (askH 5).rp), .int .u32 (n32 (askH 5).id), .int .u64 (n64 (askH 5).ref), .int .u64 (n64 (askH 5).org), .int .u64 (n64 (askH 5).rcv), .int .u64 (n64 (askH 5).tx), .slice a1 (wflds A).length d1, .slice a2 0 d2, .bool false]] w (Read2 (hdrB (askH 5) ++ bytesF (wflds A)).length (hdrB (askH 5) ++ bytesF (wflds A)) (.int .i64 0) w) := by
  have lA := wflds_len A
  have := pbare_any a1 a2 (wflds A).length d1 0 d2 ⟨askH 5, wflds A, [], false⟩ w hI1 (by omega) (fun f hf => by have := (wflds_in hf).2.2; omega) rfl
  rw [bare_wflds] at this
  exact this
theorem zeroP_no : ∀ v ∈ ([.int .i64 0, .int .i64 0, .int .i64 0, .int .i64 0, .int .i64 0, .int .i64 0, .int .u32 0, .int .u32 0, .int .u32 0, .int .u64 0, .int .u64 0, .int .u64 0, .int .u64 0, .slice none 0 0, .slice none 0 0, .bool false] : List Value), ∀ x, v ≠ .int .u8 x := by simp
set_option maxRecDepth 100000 in
set_option maxHeartbeats 4000000 in
theorem protectHides_walk (seed other : Int) (a : Option Addr) (n1 c1 : Nat) (b : Option Addr) (n2 c2 : Nat) (c : Option Addr) (n3 c3 : Nat) (A B C : List (Int × List UInt8)) (w : World) (h1 : Ib w a n1 A) (_k1 : n1 ≤ c1) (_w1 : ∀ x ∈ A, (Lit.int .i64 x.1).wf = true) (h2 : Ib w b n2 B) (_k2 : n2 ≤ c2) (_w2 : ∀ x ∈ B, (Lit.int .i64 x.1).wf = true) (h3 : Ib w c n3 C) (_k3 : n3 ≤ c3) (_w3 : ∀ x ∈ C, (Lit.int .i64 x.1).wf = true) :
    Calls Try.prog 8 #[.int .i64 seed, .int .i64 other, .slice a n1 c1, .slice b n2 c2, .slice c n3 c3] w fun e w' => e = .returned (.bool true) ∧ Ext w w' := by
  obtain ⟨s1, hs1, es1⟩ := nmod seed 1000 (by omega)
  obtain ⟨s2, hs2, es2⟩ := nmod other 1000 (by omega)
  have es1 : seed % 1000 = (s1 : Int) := es1
  have es2 : other % 1000 = (s2 : Int) := es2
  have hw1 := fun W => within_any seed 1000 W (by omega) (by omega)
  have hw2 := fun W => within_any other 1000 W (by omega) (by omega)
  rw [es1] at hw1
  rw [es2] at hw2
  have hask : ∀ W, Calls Try.prog 26 #[.int .u64 5] W fun e w' => e = .returned (.agg #[.int .i64 (askH 5).leap, .int .i64 (askH 5).ver, .int .i64 (askH 5).mode, .int .i64 (askH 5).strat, .int .i64 (askH 5).poll, .int .i64 (askH 5).prec, .int .u32 (n32 (askH 5).rd), .int .u32 (n32 (askH 5).rp), .int .u32 (n32 (askH 5).id), .int .u64 (n64 (askH 5).ref), .int .u64 (n64 (askH 5).org), .int .u64 (n64 (askH 5).rcv), .int .u64 (n64 (askH 5).tx)]) ∧ Ext W w' := fun W => rask_any 5 W
  have hf1 := fun W H => wfields_any a n1 c1 A W H
  have hf2 := fun W H => wfields_any b n2 c2 B W H
  have hf3 := fun W H => wfields_any c n3 c3 C W H
  clear es1 es2
  go_enter Try.func8, Try.ntmps8
  go_wp2_with fail
  (with_reducible refine (hw1 _).mono ?_); rintro e w1 ⟨rfl, hx1⟩
  go_wp2_with fail
  (with_reducible refine (hw2 _).mono ?_); rintro e w2 ⟨rfl, hx2⟩
  go_wp2_with fail
  (with_reducible refine (hask _).mono ?_); rintro e w3 ⟨rfl, hx3⟩
  have hE3 := (hx1.trans hx2).trans hx3
  clear hx1 hx2 hx3 hw1 hw2 hask
  go_wp2_with fail
  (with_reducible refine (hf1 _ (h1.ext hE3)).mono ?_); rintro e w4 ⟨b1, d1, rfl, hO1, hx4⟩
  have hE4 := hE3.trans hx4
  clear hE3 hf1 hx4
  go_wp2_with fail
  (with_reducible refine (hf2 _ (h2.ext hE4)).mono ?_); rintro e w5 ⟨b2, d2, rfl, hO2, hx5⟩
  have hE5 := hE4.trans hx5
  have hO1 := hO1.ext hx5
  clear hE4 hf2 hx5
  go_wp2_with (first
    | (refine wpList_alloc_store (RP16) rfl rfl _ _ rfl rfl rfl rfl (by simp [Act.put]) ([.int .i64 (askH 5).leap, .int .i64 (askH 5).ver, .int .i64 (askH 5).mode, .int .i64 (askH 5).strat, .int .i64 (askH 5).poll, .int .i64 (askH 5).prec, .int .u32 (n32 (askH 5).rd), .int .u32 (n32 (askH 5).rp), .int .u32 (n32 (askH 5).id), .int .u64 (n64 (askH 5).ref), .int .u64 (n64 (askH 5).org), .int .u64 (n64 (askH 5).rcv), .int .u64 (n64 (askH 5).tx), .slice b1 (wflds A).length d1, .slice b2 (wflds B).length d2, .bool false]) rfl (by simp) (rfl) ((by simp; repeat' (first | rfl | constructor))) ?_; intro x hz _)
    | fail)
  refine nameW ?_
  intro W hW
  have hx6 : Ext w5 W := by rw [hW]; exact (by repeat (first | (with_reducible first | exact Ext.refl _ | assumption | apply Ext.alloc | apply Ext.ext | apply Ext.drew | refine Ext.setCell ?_ ?_ _) | (focus (simp [go_sem]; done))))
  have hB1 : Blk W w5.heap.size 58 [.int .i64 (askH 5).leap, .int .i64 (askH 5).ver, .int .i64 (askH 5).mode, .int .i64 (askH 5).strat, .int .i64 (askH 5).poll, .int .i64 (askH 5).prec, .int .u32 (n32 (askH 5).rd), .int .u32 (n32 (askH 5).rp), .int .u32 (n32 (askH 5).id), .int .u64 (n64 (askH 5).ref), .int .u64 (n64 (askH 5).org), .int .u64 (n64 (askH 5).rcv), .int .u64 (n64 (askH 5).tx), .slice b1 (wflds A).length d1, .slice b2 (wflds B).length d2, .bool false] := by rw [hW]; exact hz.extB (by repeat (first | (with_reducible first | exact Ext.refl _ | assumption | apply Ext.alloc | apply Ext.ext | apply Ext.drew | refine Ext.setCell ?_ ?_ _) | (focus (simp [go_sem]; done))))
  have hE6 := hE5.trans hx6
  have hI1 := hO1.ext hx6
  have hI2 := hO2.ext hx6
  have h36 := h3.ext hE6
  have hlt1 : w.heap.size ≤ w5.heap.size := hE5.size
  clear hW hx6 hz hE5 hO1 hO2
  haveI := hB1.blt
  have f13 : W.cell? ⟨w5.heap.size, 13, none⟩ = some (.slice b1 (wflds A).length d1) := hB1.cell? 13 rfl
  have hHd : Rd W (some ⟨w5.heap.size, 0, none⟩) [.int .i64 (askH 5).leap, .int .i64 (askH 5).ver, .int .i64 (askH 5).mode, .int .i64 (askH 5).strat, .int .i64 (askH 5).poll, .int .i64 (askH 5).prec, .int .u32 (n32 (askH 5).rd), .int .u32 (n32 (askH 5).rp), .int .u32 (n32 (askH 5).id), .int .u64 (n64 (askH 5).ref), .int .u64 (n64 (askH 5).org), .int .u64 (n64 (askH 5).rcv), .int .u64 (n64 (askH 5).tx)] := Rd.left (vs := [.int .i64 (askH 5).leap, .int .i64 (askH 5).ver, .int .i64 (askH 5).mode, .int .i64 (askH 5).strat, .int .i64 (askH 5).poll, .int .i64 (askH 5).prec, .int .u32 (n32 (askH 5).rd), .int .u32 (n32 (askH 5).rp), .int .u32 (n32 (askH 5).id), .int .u64 (n64 (askH 5).ref), .int .u64 (n64 (askH 5).org), .int .u64 (n64 (askH 5).rcv), .int .u64 (n64 (askH 5).tx)]) (us := [.slice b1 (wflds A).length d1, .slice b2 (wflds B).length d2, .bool false]) hB1.rd
  refine R2.wp_region_vague 8 [[], [0], [], [2], [], [4], [0, 1, 2, 3, 4, 5], [], [0, 1, 2, 3, 4, 5, 6, 7]] (by kernel_rfl) (by kernel_rfl) (by kernel_rfl) (by kernel_rfl) ?_; simp only [List.take_succ_cons, List.take_zero, List.drop_succ_cons, List.drop_zero, List.take_nil, List.drop_nil]
  (repeat (apply R2.VD_der; (case h => (intro us w' hx hf; obtain ⟨x, rfl⟩ := hx.out; refine ⟨rfl, ?_⟩; simp [go_sem, execOp, *]; (try simp (disch := omega) only [Go.IntWalk.i64_in, Go.IntWalk.rem_in, Go.IntWalk.wrap64_in]); rfl)); (try simp only [Act.put, List.setIfInBounds_toArray, List.set_cons_succ, List.set_cons_zero])))
  (refine R2.VD_load_arr (RH13) _ rfl (fun _ => rfl) (w5.heap.size) (0) (fun _ => by simp [go_sem]) ([.int .i64 (askH 5).leap, .int .i64 (askH 5).ver, .int .i64 (askH 5).mode, .int .i64 (askH 5).strat, .int .i64 (askH 5).poll, .int .i64 (askH 5).prec, .int .u32 (n32 (askH 5).rd), .int .u32 (n32 (askH 5).rp), .int .u32 (n32 (askH 5).id), .int .u64 (n64 (askH 5).ref), .int .u64 (n64 (askH 5).org), .int .u64 (n64 (askH 5).rcv), .int .u64 (n64 (askH 5).tx)]) (hHd) (rfl) ?_)
  (repeat (apply R2.VD_der; (case h => (intro us w' hx hf; obtain ⟨x, rfl⟩ := hx.out; refine ⟨rfl, ?_⟩; simp [go_sem, execOp, *]; (try simp (disch := omega) only [Go.IntWalk.i64_in, Go.IntWalk.rem_in, Go.IntWalk.wrap64_in]); rfl)); (try simp only [Act.put, List.setIfInBounds_toArray, List.set_cons_succ, List.set_cons_zero])))
  (refine R2.VD_vag (fun p => .slice (p 0).1 (wflds C).length (p 0).2) (fun p w'' => ∃ B, OwnI 60 w'' B (p 0).1 (wflds C).length (p 0).2 (wflds C)) (fun p w w' ⟨B, h⟩ hx => ⟨B, h.ext hx⟩) (fun us w' hx hf => ⟨rfl, ?_⟩) ?_; (unfold gives; simp [go_sem, execOp]; exact (hf3 _ (h36.ext hx)).mono fun _ _ ⟨b, d, he, hO, hx'⟩ => ⟨_, he, fun _ => (b, d), rfl, hx', _, hO⟩))
  (repeat (apply R2.VD_der; (case h => (intro us w' hx hf; obtain ⟨x, rfl⟩ := hx.out; refine ⟨rfl, ?_⟩; simp [go_sem, execOp, *]; (try simp (disch := omega) only [Go.IntWalk.i64_in, Go.IntWalk.rem_in, Go.IntWalk.wrap64_in]); rfl)); (try simp only [Act.put, List.setIfInBounds_toArray, List.set_cons_succ, List.set_cons_zero])))
  (refine R2.VD_alloc _ ([.int .i64 0, .int .i64 0, .int .i64 0, .int .i64 0, .int .i64 0, .int .i64 0, .int .u32 0, .int .u32 0, .int .u32 0, .int .u64 0, .int .u64 0, .int .u64 0, .int .u64 0, .slice none 0 0, .slice none 0 0, .bool false]) Try.zeroValue58 rfl rfl rfl ?_)
  (refine R2.VD_nil ?_; intro us w' hx hf hd; obtain ⟨x, rfl⟩ := hx.out; (try simp only [Act.put, List.setIfInBounds_toArray, List.set_cons_succ, List.set_cons_zero, wpList_none]); (try simp only [List.mem_cons, List.not_mem_nil, or_false, forall_eq_or_imp, forall_eq, List.nil_append, List.cons_append, List.mem_append, false_or, true_and, and_true] at hf); (try simp only [Nat.reduceAdd, Nat.zero_add] at hf); (try simp only [Nat.reduceAdd, Nat.zero_add]))
  obtain ⟨⟨B3, hI3⟩, g, eg, hgW, hBg⟩ := hf
  obtain ⟨b3, hb3⟩ : ∃ a, (us 5 0).1 = a := ⟨_, rfl⟩
  obtain ⟨d3, hd3'⟩ : ∃ a, (us 5 0).2 = a := ⟨_, rfl⟩
  rw [hb3] at hI3 ⊢
  rw [hd3'] at hI3 ⊢
  rw [eg]
  clear hb3 hd3' eg hd hf3
  have hxx : Ext W (W.ext x) := Ext.of_ext _ _
  have hB1x := hB1.extB hxx
  have hE7 := hE6.trans hxx
  have j1 := hI1.ext hxx
  have j2 := hI2.ext hxx
  have hlt := hB1.lt
  clear hB1 hE6 f13 hHd hxx
  generalize W.ext x = W7 at *
  haveI := hB1x.blt
  haveI := hBg.blt
  go_wp2_with (first
    | (refine wpList_store_arr (RP16) rfl _ _ rfl (g) (0) rfl ([.int .i64 (askH 5).leap, .int .i64 (askH 5).ver, .int .i64 (askH 5).mode, .int .i64 (askH 5).strat, .int .i64 (askH 5).poll, .int .i64 (askH 5).prec, .int .u32 (n32 (askH 5).rd), .int .u32 (n32 (askH 5).rp), .int .u32 (n32 (askH 5).id), .int .u64 (n64 (askH 5).ref), .int .u64 (n64 (askH 5).org), .int .u64 (n64 (askH 5).rcv), .int .u64 (n64 (askH 5).tx), .slice b1 (wflds A).length d1, .slice b3 (wflds C).length d3, .bool false]) rfl (58) _ (hBg) (rfl) (by simp) ((by simp; repeat' (first | rfl | constructor))) ?_; intro V hV hMV)
    | fail)
  have hB2 : Blk V g 58 [.int .i64 (askH 5).leap, .int .i64 (askH 5).ver, .int .i64 (askH 5).mode, .int .i64 (askH 5).strat, .int .i64 (askH 5).poll, .int .i64 (askH 5).prec, .int .u32 (n32 (askH 5).rd), .int .u32 (n32 (askH 5).rp), .int .u32 (n32 (askH 5).id), .int .u64 (n64 (askH 5).ref), .int .u64 (n64 (askH 5).org), .int .u64 (n64 (askH 5).rcv), .int .u64 (n64 (askH 5).tx), .slice b1 (wflds A).length d1, .slice b3 (wflds C).length d3, .bool false] := hV
  have hBx := hBg
  have j1 := (j1.mut hBx (by decide) (zeroP_no) hMV).ib.1
  have j2 := (j2.mut hBx (by decide) (zeroP_no) hMV).ib.1
  have j3 := (hI3.mut hBx (by decide) (zeroP_no) hMV).ib.1
  have hB1 : Blk V w5.heap.size 58 [.int .i64 (askH 5).leap, .int .i64 (askH 5).ver, .int .i64 (askH 5).mode, .int .i64 (askH 5).strat, .int .i64 (askH 5).poll, .int .i64 (askH 5).prec, .int .u32 (n32 (askH 5).rd), .int .u32 (n32 (askH 5).rp), .int .u32 (n32 (askH 5).id), .int .u64 (n64 (askH 5).ref), .int .u64 (n64 (askH 5).org), .int .u64 (n64 (askH 5).rcv), .int .u64 (n64 (askH 5).tx), .slice b1 (wflds A).length d1, .slice b2 (wflds B).length d2, .bool false] := Blk.turn hMV hB1x (by omega)
  have hE8 : Ext w V := Below.trans hE7 (hMV.below (by have := hE7.size; omega) hE7.size)
  clear hBg hBx hMV hB1x hE7 hI3 hV hI1 hI2 hgW
  have lA := wflds_len A
  have lB := wflds_len B
  have lC := wflds_len C
  have hky := fun s W (h : s < 1000) => key_any s rfl W (by omega)
  have hnn := fun (s : Nat) W (h : s < 1000) => wbytes_any s 16 rfl (show (16 : Int) = ((16 : Nat) : Int) from rfl) W (by omega) (by omega)
  haveI := hB1.blt
  refine wp_region_vague 10 [[], [0], [], [], [0, 1, 3], [0, 1, 2, 3, 4], [0, 1, 2, 3, 4, 5], [0, 1, 2, 3, 4, 5, 6], [0, 1, 2, 3, 4, 5, 6], [0, 1, 2, 3, 4, 5, 6, 7], [0, 1, 2, 3, 4, 5, 6, 7, 8, 9]] (by kernel_rfl) (by kernel_rfl) (by kernel_rfl) (by kernel_rfl) ?_; simp only [List.take_succ_cons, List.take_zero, List.drop_succ_cons, List.drop_zero, List.take_nil, List.drop_nil]
  (repeat (apply VD_der; (case h => (intro us w' hx hf; obtain ⟨x, rfl⟩ := hx.out; refine ⟨rfl, ?_⟩; simp [go_sem, execOp, *]; (try simp (disch := omega) only [Go.IntWalk.i64_in, Go.IntWalk.rem_in, Go.IntWalk.wrap64_in]); rfl)); (try simp only [Act.put, List.setIfInBounds_toArray, List.set_cons_succ, List.set_cons_zero])))
  (refine VD_vag (fun p => .slice (p 0).1 (32) (p 0).2) (fun p w'' => Own w'' 0 (p 0).1 (32) (p 0).2 (wbytes s1 32)) (fun p w w' h hx => h.ext hx) (fun us w' hx hf => ⟨rfl, ?_⟩) ?_; (unfold gives; simp [go_sem, execOp]; exact vag_fresh (Nat.zero_le _) (hky s1 _ (by omega))))
  (refine VD_load_arr (RP16) _ rfl (fun _ => rfl) (w5.heap.size) (0) (fun _ => by simp [go_sem]) ([.int .i64 (askH 5).leap, .int .i64 (askH 5).ver, .int .i64 (askH 5).mode, .int .i64 (askH 5).strat, .int .i64 (askH 5).poll, .int .i64 (askH 5).prec, .int .u32 (n32 (askH 5).rd), .int .u32 (n32 (askH 5).rp), .int .u32 (n32 (askH 5).id), .int .u64 (n64 (askH 5).ref), .int .u64 (n64 (askH 5).org), .int .u64 (n64 (askH 5).rcv), .int .u64 (n64 (askH 5).tx), .slice b1 (wflds A).length d1, .slice b2 (wflds B).length d2, .bool false]) (hB1.rd) (rfl) ?_)
  (repeat (apply VD_der; (case h => (intro us w' hx hf; obtain ⟨x, rfl⟩ := hx.out; refine ⟨rfl, ?_⟩; simp [go_sem, execOp, *]; (try simp (disch := omega) only [Go.IntWalk.i64_in, Go.IntWalk.rem_in, Go.IntWalk.wrap64_in]); rfl)); (try simp only [Act.put, List.setIfInBounds_toArray, List.set_cons_succ, List.set_cons_zero])))
  (refine VD_vag (fun p => .slice (p 0).1 (16) (p 0).2) (fun p w'' => Own w'' 0 (p 0).1 (16) (p 0).2 (wbytes s1 16)) (fun p w w' h hx => h.ext hx) (fun us w' hx hf => ⟨rfl, ?_⟩) ?_; (unfold gives; simp [go_sem, execOp]; exact vag_fresh (Nat.zero_le _) (hnn s1 _ (by omega))))
  (refine VD_vag (fun p => .tuple #[.slice (p 0).1 ((protX s1 5 A B).length) (p 0).2, .int .i64 0]) (fun p w'' => Sl w'' (p 0).1 ((protX s1 5 A B).length) (protX s1 5 A B) ∧ ((protX s1 5 A B).length) ≤ (p 0).2) (fun p w w' h hx => ⟨h.1.ext hx, h.2⟩) (fun us w' hx hf => ⟨rfl, ?_⟩) ?_; (unfold gives; simp [go_sem, execOp]; exact vag_read (prot5_any _ _ b1 b2 _ _ d1 d2 s1 A B _ (Own.sl (hf _ (List.mem_append_left _ (List.mem_append_right _ (List.mem_singleton_self _))) rfl)) (Own.le (hf _ (List.mem_append_left _ (List.mem_append_right _ (List.mem_singleton_self _))) rfl)).1 (Own.sl (hf _ (List.mem_append_right _ (List.mem_singleton_self _)) rfl)) (Own.le (hf _ (List.mem_append_right _ (List.mem_singleton_self _)) rfl)).1 (j1.ext hx) (j2.ext hx))))
  (repeat (apply VD_der; (case h => (intro us w' hx hf; obtain ⟨x, rfl⟩ := hx.out; refine ⟨rfl, ?_⟩; simp [go_sem, execOp, *]; (try simp (disch := omega) only [Go.IntWalk.i64_in, Go.IntWalk.rem_in, Go.IntWalk.wrap64_in]); rfl)); (try simp only [Act.put, List.setIfInBounds_toArray, List.set_cons_succ, List.set_cons_zero])))
  (refine VD_nil ?_; intro us w' hx hf; obtain ⟨x, rfl⟩ := hx.out; (try simp only [Act.put, List.setIfInBounds_toArray, List.set_cons_succ, List.set_cons_zero, wpList_none]); (try simp only [List.mem_cons, List.not_mem_nil, or_false, forall_eq_or_imp, forall_eq, List.nil_append, List.cons_append, List.mem_append, false_or, true_and, and_true] at hf); (try simp only [Nat.reduceAdd, Nat.zero_add] at hf); (try simp only [Nat.reduceAdd, Nat.zero_add]))
  obtain ⟨-, -, hX1⟩ := hf
  obtain ⟨p1, hA5⟩ : ∃ a, (us 5 0).1 = a := ⟨_, rfl⟩
  obtain ⟨q1, hC5⟩ : ∃ a, (us 5 0).2 = a := ⟨_, rfl⟩
  rw [hA5, hC5] at hX1
  rw [hA5, hC5]
  clear hA5 hC5
  have hxx : Ext V (V.ext x) := Ext.of_ext _ _
  have hE8 := hE8.trans hxx
  have hB1 := hB1.extB hxx
  have hB2 := hB2.extB hxx
  have j1 := j1.ext hxx
  have j2 := j2.ext hxx
  have j3 := j3.ext hxx
  clear hxx
  generalize V.ext x = V at *
  haveI := hB2.blt
  go_wp2_with fail
  haveI := hB2.blt
  refine wp_region_vague 10 [[], [0], [], [], [0, 1, 3], [0, 1, 2, 3, 4], [0, 1, 2, 3, 4, 5], [0, 1, 2, 3, 4, 5, 6], [0, 1, 2, 3, 4, 5, 6], [0, 1, 2, 3, 4, 5, 6, 7], [0, 1, 2, 3, 4, 5, 6, 7, 8, 9]] (by kernel_rfl) (by kernel_rfl) (by kernel_rfl) (by kernel_rfl) ?_; simp only [List.take_succ_cons, List.take_zero, List.drop_succ_cons, List.drop_zero, List.take_nil, List.drop_nil]
  (repeat (apply VD_der; (case h => (intro us w' hx hf; obtain ⟨x, rfl⟩ := hx.out; refine ⟨rfl, ?_⟩; simp [go_sem, execOp, *]; (try simp (disch := omega) only [Go.IntWalk.i64_in, Go.IntWalk.rem_in, Go.IntWalk.wrap64_in]); rfl)); (try simp only [Act.put, List.setIfInBounds_toArray, List.set_cons_succ, List.set_cons_zero])))
  (refine VD_vag (fun p => .slice (p 0).1 (32) (p 0).2) (fun p w'' => Own w'' 0 (p 0).1 (32) (p 0).2 (wbytes s2 32)) (fun p w w' h hx => h.ext hx) (fun us w' hx hf => ⟨rfl, ?_⟩) ?_; (unfold gives; simp [go_sem, execOp]; exact vag_fresh (Nat.zero_le _) (hky s2 _ (by omega))))
  (refine VD_load_arr (RP16) _ rfl (fun _ => rfl) (g) (0) (fun _ => by simp [go_sem]) ([.int .i64 (askH 5).leap, .int .i64 (askH 5).ver, .int .i64 (askH 5).mode, .int .i64 (askH 5).strat, .int .i64 (askH 5).poll, .int .i64 (askH 5).prec, .int .u32 (n32 (askH 5).rd), .int .u32 (n32 (askH 5).rp), .int .u32 (n32 (askH 5).id), .int .u64 (n64 (askH 5).ref), .int .u64 (n64 (askH 5).org), .int .u64 (n64 (askH 5).rcv), .int .u64 (n64 (askH 5).tx), .slice b1 (wflds A).length d1, .slice b3 (wflds C).length d3, .bool false]) (hB2.rd) (rfl) ?_)
  (repeat (apply VD_der; (case h => (intro us w' hx hf; obtain ⟨x, rfl⟩ := hx.out; refine ⟨rfl, ?_⟩; simp [go_sem, execOp, *]; (try simp (disch := omega) only [Go.IntWalk.i64_in, Go.IntWalk.rem_in, Go.IntWalk.wrap64_in]); rfl)); (try simp only [Act.put, List.setIfInBounds_toArray, List.set_cons_succ, List.set_cons_zero])))
  (refine VD_vag (fun p => .slice (p 0).1 (16) (p 0).2) (fun p w'' => Own w'' 0 (p 0).1 (16) (p 0).2 (wbytes s2 16)) (fun p w w' h hx => h.ext hx) (fun us w' hx hf => ⟨rfl, ?_⟩) ?_; (unfold gives; simp [go_sem, execOp]; exact vag_fresh (Nat.zero_le _) (hnn s2 _ (by omega))))
  (refine VD_vag (fun p => .tuple #[.slice (p 0).1 ((protX s2 5 A C).length) (p 0).2, .int .i64 0]) (fun p w'' => Sl w'' (p 0).1 ((protX s2 5 A C).length) (protX s2 5 A C) ∧ ((protX s2 5 A C).length) ≤ (p 0).2) (fun p w w' h hx => ⟨h.1.ext hx, h.2⟩) (fun us w' hx hf => ⟨rfl, ?_⟩) ?_; (unfold gives; simp [go_sem, execOp]; exact vag_read (prot5_any _ _ b1 b3 _ _ d1 d3 s2 A C _ (Own.sl (hf _ (List.mem_append_left _ (List.mem_append_right _ (List.mem_singleton_self _))) rfl)) (Own.le (hf _ (List.mem_append_left _ (List.mem_append_right _ (List.mem_singleton_self _))) rfl)).1 (Own.sl (hf _ (List.mem_append_right _ (List.mem_singleton_self _)) rfl)) (Own.le (hf _ (List.mem_append_right _ (List.mem_singleton_self _)) rfl)).1 (j1.ext hx) (j3.ext hx))))
  (repeat (apply VD_der; (case h => (intro us w' hx hf; obtain ⟨x, rfl⟩ := hx.out; refine ⟨rfl, ?_⟩; simp [go_sem, execOp, *]; (try simp (disch := omega) only [Go.IntWalk.i64_in, Go.IntWalk.rem_in, Go.IntWalk.wrap64_in]); rfl)); (try simp only [Act.put, List.setIfInBounds_toArray, List.set_cons_succ, List.set_cons_zero])))
  (refine VD_nil ?_; intro us w' hx hf; obtain ⟨x, rfl⟩ := hx.out; (try simp only [Act.put, List.setIfInBounds_toArray, List.set_cons_succ, List.set_cons_zero, wpList_none]); (try simp only [List.mem_cons, List.not_mem_nil, or_false, forall_eq_or_imp, forall_eq, List.nil_append, List.cons_append, List.mem_append, false_or, true_and, and_true] at hf); (try simp only [Nat.reduceAdd, Nat.zero_add] at hf); (try simp only [Nat.reduceAdd, Nat.zero_add]))
  obtain ⟨-, -, hX2⟩ := hf
  obtain ⟨p2, hA5⟩ : ∃ a, (us 5 0).1 = a := ⟨_, rfl⟩
  obtain ⟨q2, hC5⟩ : ∃ a, (us 5 0).2 = a := ⟨_, rfl⟩
  rw [hA5, hC5] at hX2
  rw [hA5, hC5]
  clear hA5 hC5
  have hxx : Ext V (V.ext x) := Ext.of_ext _ _
  have hE8 := hE8.trans hxx
  have hB1 := hB1.extB hxx
  have hB2 := hB2.extB hxx
  have j1 := j1.ext hxx
  have j2 := j2.ext hxx
  have j3 := j3.ext hxx
  clear hxx
  have hX1 := And.intro (hX1.1.ext (Ext.of_ext V x)) hX1.2
  generalize V.ext x = V at *
  haveI := hB1.blt
  have f13 : V.cell? ⟨w5.heap.size, 13, none⟩ = some (.slice b1 (wflds A).length d1) := hB1.cell? 13 rfl
  have hHd : Rd V (some ⟨w5.heap.size, 0, none⟩) [.int .i64 (askH 5).leap, .int .i64 (askH 5).ver, .int .i64 (askH 5).mode, .int .i64 (askH 5).strat, .int .i64 (askH 5).poll, .int .i64 (askH 5).prec, .int .u32 (n32 (askH 5).rd), .int .u32 (n32 (askH 5).rp), .int .u32 (n32 (askH 5).id), .int .u64 (n64 (askH 5).ref), .int .u64 (n64 (askH 5).org), .int .u64 (n64 (askH 5).rcv), .int .u64 (n64 (askH 5).tx)] := Rd.left (vs := [.int .i64 (askH 5).leap, .int .i64 (askH 5).ver, .int .i64 (askH 5).mode, .int .i64 (askH 5).strat, .int .i64 (askH 5).poll, .int .i64 (askH 5).prec, .int .u32 (n32 (askH 5).rd), .int .u32 (n32 (askH 5).rp), .int .u32 (n32 (askH 5).id), .int .u64 (n64 (askH 5).ref), .int .u64 (n64 (askH 5).org), .int .u64 (n64 (askH 5).rcv), .int .u64 (n64 (askH 5).tx)]) (us := [.slice b1 (wflds A).length d1, .slice b2 (wflds B).length d2, .bool false]) hB1.rd
  go_wp2_with (first
    | (refine wpList_load_arr (RH13) rfl _ rfl (w5.heap.size) (0) rfl ([.int .i64 (askH 5).leap, .int .i64 (askH 5).ver, .int .i64 (askH 5).mode, .int .i64 (askH 5).strat, .int .i64 (askH 5).poll, .int .i64 (askH 5).prec, .int .u32 (n32 (askH 5).rd), .int .u32 (n32 (askH 5).rp), .int .u32 (n32 (askH 5).id), .int .u64 (n64 (askH 5).ref), .int .u64 (n64 (askH 5).org), .int .u64 (n64 (askH 5).rcv), .int .u64 (n64 (askH 5).tx)]) ((hHd.ext (by repeat (first | (with_reducible first | exact Ext.refl _ | assumption | apply Ext.alloc | apply Ext.ext | apply Ext.drew | refine Ext.setCell ?_ ?_ _) | (focus (simp [go_sem]; done)))))) (rfl) ?_)
    | fail)
  (with_reducible refine (bare5_any b1 none d1 0 A V j1).mono ?_)
  rintro e w9 ⟨b9, d9, rfl, hS9, hd9, hx9⟩
  have hE9 := hE8.trans hx9
  obtain ⟨hS1, hq1⟩ := hX1
  obtain ⟨hS2, hq2⟩ := hX2
  have hS1 := hS1.ext hx9
  have hS2 := hS2.ext hx9
  have hk18 := fun W => known18_any W
  obtain ⟨z1, l1⟩ := protX_spec s1 5 A B
  obtain ⟨z2, l2⟩ := protX_spec s2 5 A C
  generalize protX s1 5 A B = X1 at *
  generalize protX s2 5 A C = X2 at *
  generalize hdrB (askH 5) ++ bytesF (wflds A) = Z at *
  have hT1 := hS1.take Z.length (by omega)
  have hT2 := hS2.take Z.length (by omega)
  rw [z1] at hT1
  rw [z2] at hT2
  have hs1 := fun W H1 H2 => same_any p1 b9 Z.length q1 Z.length d9 Z Z W H1 H2
  have hs2 := fun W H1 H2 => same_any p2 b9 Z.length q2 Z.length d9 Z Z W H1 H2
  rw [beq_self_eq_true] at hs1 hs2
  have g1 : (Z.length : Int) < (X1.length : Int) := by omega
  have g2 : (Z.length : Int) < (X2.length : Int) := by omega
  have g3 : (Z.length : Int) ≤ (q1 : Int) := by omega
  have g4 : (Z.length : Int) ≤ (q2 : Int) := by omega
  clear hB1 hB2 j1 j2 j3 f13 hHd z1 z2 l1 l2 hky hnn
  go_wp2_with (first
    | (go_at_call 23; refine (hk18 _).mono ?_; rintro e w1 ⟨rfl, hxq⟩; obtain ⟨xq, rfl⟩ := hxq.out; clear hxq)
    | fail)
  have hxk : Ext w9 (w9.ext xq) := Ext.of_ext _ _
  (with_reducible refine (hs1 _ (hT1.ext hxk) (hS9.ext hxk)).mono ?_)
  rintro e w10 ⟨rfl, hx10⟩
  have hxk := hxk.trans hx10
  go_wp2_with fail
  (with_reducible refine (hs2 _ (hT2.ext hxk) (hS9.ext hxk)).mono ?_)
  rintro e w11 ⟨rfl, hx11⟩
  go_wp2_with fail
  go_ret
  exact ⟨rfl, hE9.trans (hxk.trans hx11)⟩
end Go.Proofs.Ytmmbcgbadaojeaa
