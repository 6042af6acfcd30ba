/- Lemmas of this claim, several texts joined. -/
import Derived.Test.YtdmifbfgeeldnaaGreatZ6
import Derived.Test.YtdmifbfgeeldnaaGreatZ11
import Derived.Test.YtdmifbfgeeldnaaGreatZ24
import Derived.Test.YtdmifbfgeeldnaaGreatZ26
import Derived.Test.YtdmifbfgeeldnaaGreatZ30
import Derived.Test.YtdmifbfgeeldnaaGreatZ33
set_option linter.unusedVariables false
set_option linter.unusedSimpArgs false
/- The walks of layer 18: Open. -/
namespace Go.Pkt
open Go.Oct Go.Aes
theorem decH_ok {b : List UInt8} (h : (decH b).2 = 0) : 48 ≤ b.length ∧ b.length ≤ 1280 ∧ (decH b).1.2 = b.drop 48 := by
  unfold decH at h ⊢
  split at h
  · cases h
  · split at h
    · cases h
    · split at h
      · rename_i h1 h2 h3
        rw [if_neg h1, if_neg h2, if_pos h3]
        exact ⟨by omega, by omega, rfl⟩
      · cases h
theorem decF_ok {l : List UInt8} (h : (decF l).2 = 0) : totN (decF l).1 = l.length ∧ (decF l).1.length ≤ 24 ∧ ∀ f ∈ (decF l).1, f.2.length % 4 = 0 ∧ 12 ≤ f.2.length ∧ 0 ≤ f.1 ∧ f.1 ≤ 65535 := by
  unfold decF at h ⊢
  split at h
  · cases h
  · rename_i h1
    rw [if_neg h1]
    exact decR_ok 24 l h
theorem totN_mem {L : List Fld} {f : Fld} (h : f ∈ L) : szN f.2.length ≤ totN L := by
  induction L with
  | nil => cases h
  | cons g L ih =>
    rw [totN_cons]
    rcases List.mem_cons.1 h with rfl | h
    · omega
    · have := ih h; omega
theorem readE_spec {b : List UInt8} (h : (readE b).2 = 0) : 48 ≤ b.length ∧ b.length ≤ 1280 ∧ totN (readE b).1.plain + 48 = b.length ∧ (readE b).1.plain.length ≤ 24 ∧
    ∀ f ∈ (readE b).1.plain, f.2.length % 4 = 0 ∧ 12 ≤ f.2.length ∧ 0 ≤ f.1 ∧ f.1 ≤ 65535 := by
  by_cases h1 : (decH b).2 = 0
  · by_cases h2 : (decF (decH b).1.2).2 = 0
    · obtain ⟨a1, a2, a3⟩ := decH_ok h1
      obtain ⟨b1, b2, b3⟩ := decF_ok h2
      rw [readE_ok h1 h2]
      refine ⟨a1, a2, ?_, b2, b3⟩
      show totN (decF (decH b).1.2).1 + 48 = _
      rw [b1, a3, List.length_drop]; omega
    · rw [readE_flds h1 h2] at h; exact absurd h h2
  · rw [readE_head h1] at h; exact absurd h h1
theorem readE_fld {b : List UInt8} (h : (readE b).2 = 0) {f : Fld} (hf : f ∈ (readE b).1.plain) : f.2.length + 52 ≤ b.length ∧ f.2.length ≤ 1280 := by
  obtain ⟨h1, h2, h3, _, _⟩ := readE_spec h
  have h4 := totN_mem hf
  have h5 := szN_ge f.2.length
  omega
theorem openE_len {ky s : List UInt8} {A : List (List UInt8)} : (openE ky A s).1.length ≤ s.length := by
  unfold openE
  split
  · simp
  · split
    · simp
    · split
      · simp
      · split
        · rw [plainOf_length]; omega
        · simp
theorem partsE_sealed {d : List UInt8} {z : List UInt8 × List UInt8} (h : partsE d = some z) : z.2.length ≤ d.length := by
  unfold partsE at h
  simp only at h
  split at h
  · injection h with h
    rw [← h]
    simp only [List.length_take, List.length_drop]
    omega
  · cases h
theorem openP_key {ky b : List UInt8} (h : ky.length ≠ 32) : openP ky b = (zeroP, 5) := if_pos h
theorem openP_read {ky b : List UInt8} (h : ky.length = 32) (h2 : (readE b).2 ≠ 0) : openP ky b = (zeroP, (readE b).2) := by unfold openP; rw [if_neg (by omega), if_pos h2]
theorem openP_none {ky b : List UInt8} (h : ky.length = 32) (h2 : (readE b).2 = 0) (h3 : firstI 1028 (readE b).1.plain = none) : openP ky b = (zeroP, 10) := by
  unfold openP; rw [if_neg (by omega), if_neg (by simpa using h2), h3]
def openAt (ky b : List UInt8) (i : Nat) : Pkt × Int :=
  if i + 1 ≠ (readE b).1.plain.length then (zeroP, 3) else
    match partsE ((readE b).1.plain.getD i (0, [])).2 with
    | none => (zeroP, 3)
    | some (nonce, s) =>
      if (openE ky [b.take (b.length - ((readE b).1.plain.getD i (0, [])).2.length - 4), nonce] s).2 ≠ 0 then (zeroP, 6)
      else if (decF (openE ky [b.take (b.length - ((readE b).1.plain.getD i (0, [])).2.length - 4), nonce] s).1).2 ≠ 0 then (zeroP, (decF (openE ky [b.take (b.length - ((readE b).1.plain.getD i (0, [])).2.length - 4), nonce] s).1).2)
      else (⟨(readE b).1.h, (readE b).1.plain.take i, (decF (openE ky [b.take (b.length - ((readE b).1.plain.getD i (0, [])).2.length - 4), nonce] s).1).1, true⟩, 0)
theorem openP_some {ky b : List UInt8} {i : Nat} (h : ky.length = 32) (h2 : (readE b).2 = 0) (h3 : firstI 1028 (readE b).1.plain = some i) : openP ky b = openAt ky b i := by
  unfold openP; rw [if_neg (by omega), if_neg (by simpa using h2), h3]; rfl
theorem firstI_lt {k : Int} {L : List Fld} {i : Nat} (h : firstI k L = some i) : i < L.length := by
  unfold firstI at h
  exact ixs_lt (List.mem_of_mem_head? (by rw [h]; rfl))
end Go.Pkt
namespace Go.Proofs.YtdmifbfgeeldnaaGreat
open Go.RowKit Go.Sec Go.Oct Go.Pkt Go.Aes BigFrame

def PktE (r : Pkt × Int) (w : World) (e : Ending) (w' : World) : Prop := ∃ a1 n1 c1 a2 n2 c2, e = .returned (.tuple #[.agg #[.int .i64 r.1.h.leap, .int .i64 r.1.h.ver, .int .i64 r.1.h.mode, .int .i64 r.1.h.strat, .int .i64 r.1.h.poll, .int .i64 r.1.h.prec, .int .u32 (n32 r.1.h.rd), .int .u32 (n32 r.1.h.rp), .int .u32 (n32 r.1.h.id), .int .u64 (n64 r.1.h.ref), .int .u64 (n64 r.1.h.org), .int .u64 (n64 r.1.h.rcv), .int .u64 (n64 r.1.h.tx), .slice a1 n1 c1, .slice a2 n2 c2, .bool r.1.guarded], .int .i64 r.2]) ∧
  Ib w' a1 n1 r.1.plain ∧ n1 ≤ c1 ∧ Ib w' a2 n2 r.1.secret ∧ n2 ≤ c2 ∧ Ext w w'
theorem PktE.err (w w' : World) (e : Int) (hx : Ext w w') : PktE (zeroP, e) w (.returned (.tuple #[.agg #[.int .i64 0, .int .i64 0, .int .i64 0, .int .i64 0, .int .i64 0, .int .i64 0, .int .u32 0, .int .u32 0, .int .u32 0, .int .u64 0, .int .u64 0, .int .u64 0, .int .u64 0, .slice none 0 0, .slice none 0 0, .bool false], .int .i64 e])) w' := ⟨none, 0, 0, none, 0, 0, rfl, Ib.nil _ _, Nat.le_refl _, Ib.nil _ _, Nat.le_refl _, hx⟩

set_option maxRecDepth 100000 in
set_option maxHeartbeats 2000000 in
theorem popenp_any (ak ab : Option Addr) (nk ck nb cb : Nat) (ky b : List UInt8) (w : World) (hk : Sl w ak nk ky) (hck : nk ≤ ck) (hS : Sl w ab nb b) (hcb : nb ≤ cb) (hn : nb ≤ 1000000) :
    Calls Tryz.prog 13 #[.slice ak nk ck, .slice ab nb cb] w (PktE (openP ky b) w) := by
  have lk := hk.len
  have lb := hS.len
  have hrd := fun W H => pread_any ab nb cb b W H hcb hn
  obtain ⟨r, hr⟩ : ∃ r, openP ky b = r := ⟨_, rfl⟩
  rw [hr]
  have hr := Lib.hid hr
  by_cases q1 : nk = 32
  · have q1' : ky.length = 32 := by omega
    subst q1
    go_enter Tryz.func13, Tryz.ntmps13
    go_wp2_with fail
    refine nameCl ?_
    intro W hW
    have hE : Ext w W := by rw [hW]; exact (by repeat (first | (with_reducible first | exact Ext.refl _ | assumption | apply Ext.alloc | apply Ext.ext | apply Ext.drew | refine Ext.setCell ?_ ?_ _) | (focus (simp [go_sem]; done))))
    have hP : Blk W w.heap.size 32 [.int .i64 0, .int .i64 0, .int .i64 0, .int .i64 0, .int .i64 0, .int .i64 0, .int .u32 0, .int .u32 0, .int .u32 0, .int .u64 0, .int .u64 0, .int .u64 0, .int .u64 0, .slice none 0 0, .slice none 0 0, .bool false] := by rw [hW]; exact (by repeat (first | assumption | (refine Blk.newAt _ _ _ _ ?_; first | rfl | (simp only [World.size_alloc]; done)) | apply Blk.ext | apply Blk.alloc | (refine Blk.other ?_ ?_ _; rotate_left; (simp <;> omega))))
    clear hW
    (with_reducible refine (hrd W (hS.ext hE)).mono ?_)
    rintro e w1 ⟨b1, d1, rfl, ⟨B1, hO1⟩, hx1⟩
    have hE1 := hE.trans hx1
    have hP1 := hP.extB hx1
    have hlt := hP1.lt
    haveI := hP1.blt
    clear hE hP hx1 hrd
    by_cases q2 : (readE b).2 = 0
    · rw [q2]
      have hsp := readE_spec q2
      have hfl := fun f hf => readE_fld q2 (f := f) hf
      have hso := fun i h => openP_some (i := i) q1' q2 h
      have hno := fun h => openP_none q1' q2 h
      unfold openAt at hso
      generalize (readE b).1.plain = L at *
      generalize (readE b).1.h = H at *
      go_wp2_with (first
        | ((refine wpList_alloc_store (RP16) rfl rfl _ _ rfl rfl rfl rfl (by simp [Act.put]) ([.int .i64 H.leap, .int .i64 H.ver, .int .i64 H.mode, .int .i64 H.strat, .int .i64 H.poll, .int .i64 H.prec, .int .u32 (n32 H.rd), .int .u32 (n32 H.rp), .int .u32 (n32 H.id), .int .u64 (n64 H.ref), .int .u64 (n64 H.org), .int .u64 (n64 H.rcv), .int .u64 (n64 H.tx), .slice b1 L.length d1, .slice none 0 0, .bool false]) rfl (by simp) (rfl) ((by simp; repeat' (first | rfl | constructor))) ?_; intro x hz _); haveI := hz.blt; have f13 := hz.cell? 13 rfl)
        | fail)
      refine nameCl ?_
      intro W2 hW2
      have hx2 : Ext w1 W2 := by rw [hW2]; exact (by repeat (first | (with_reducible first | exact Ext.refl _ | assumption | apply Ext.alloc | apply Ext.ext | apply Ext.drew | refine Ext.setCell ?_ ?_ _) | (focus (simp [go_sem]; done))))
      have hG : Blk W2 w1.heap.size 32 [.int .i64 H.leap, .int .i64 H.ver, .int .i64 H.mode, .int .i64 H.strat, .int .i64 H.poll, .int .i64 H.prec, .int .u32 (n32 H.rd), .int .u32 (n32 H.rp), .int .u32 (n32 H.id), .int .u64 (n64 H.ref), .int .u64 (n64 H.org), .int .u64 (n64 H.rcv), .int .u64 (n64 H.tx), .slice b1 L.length d1, .slice none 0 0, .bool false] := by rw [hW2]; exact hz.extB (by repeat (first | (with_reducible first | exact Ext.refl _ | assumption | apply Ext.alloc | apply Ext.ext | apply Ext.drew | refine Ext.setCell ?_ ?_ _) | (focus (simp [go_sem]; done))))
      have hP2 := hP1.extB hx2
      have hE2 := hE1.trans hx2
      have hO2 := hO1.ext hx2
      clear hW2 hx2 hE1 hP1 hO1 f13 hz
      (with_reducible refine (xfirst_any b1 L.length d1 L W2 hO2.ib.1 (by omega)).mono ?_)
      rintro e w3 ⟨rfl, hx3⟩
      have hG3 := hG.extB hx3
      have hP3 := hP2.extB hx3
      have hE3 := hE2.trans hx3
      have hO3 := hO2.ext hx3
      clear hG hP2 hE2 hO2 hx3
      have hdc : L.length ≤ d1 := hO3.ib.2
      haveI := hP3.blt
      haveI := hG3.blt
      have f13 : w3.cell? ⟨w1.heap.size, 13, none⟩ = some (.slice b1 L.length d1) := hG3.cell? 13 rfl
      cases q3 : firstI 1028 L with
      | none =>
        have er := Lib.hid (show r = (zeroP, 10) by rw [← hr.out]; exact hno q3)
        have ez : firstZ 1028 L = -1 := by unfold firstZ; rw [q3]
        rw [ez]
        clear ez q3 hno hso
        go_wp2_with (first
          | (refine wpList_store_arr (RP16) rfl _ _ rfl (w.heap.size) (0) rfl ([.int .i64 0, .int .i64 0, .int .i64 0, .int .i64 0, .int .i64 0, .int .i64 0, .int .u32 0, .int .u32 0, .int .u32 0, .int .u64 0, .int .u64 0, .int .u64 0, .int .u64 0, .slice none 0 0, .slice none 0 0, .bool false]) rfl (32) _ ((hP3.extB (by repeat (first | (with_reducible first | exact Ext.refl _ | assumption | apply Ext.alloc | apply Ext.ext | apply Ext.drew | refine Ext.setCell ?_ ?_ _) | (focus (simp [go_sem]; done)))))) (rfl) (by simp) ((by simp; repeat' (first | rfl | constructor))) ?_; intro V hV hMV)
          | fail)
        refine bodyPost_ret (results_arr_tmp Tryz.results13 (RP16) _ _ (w.heap.size) (0) ([.int .i64 0, .int .i64 0, .int .i64 0, .int .i64 0, .int .i64 0, .int .i64 0, .int .u32 0, .int .u32 0, .int .u32 0, .int .u64 0, .int .u64 0, .int .u64 0, .int .u64 0, .slice none 0 0, .slice none 0 0, .bool false]) rfl (hV.rd) (rfl) (.int .i64 10) rfl) rfl ?_
        rw [er.out]
        exact PktE.err _ _ _ (Below.trans (hE3.trans (by repeat (first | (with_reducible first | exact Ext.refl _ | assumption | apply Ext.alloc | apply Ext.ext | apply Ext.drew | refine Ext.setCell ?_ ?_ _) | (focus (simp [go_sem]; done))))) (hMV.below (Nat.le_refl _) (Below.size (hE3.trans (by repeat (first | (with_reducible first | exact Ext.refl _ | assumption | apply Ext.alloc | apply Ext.ext | apply Ext.drew | refine Ext.setCell ?_ ?_ _) | (focus (simp [go_sem]; done))))))))
      | some i =>
        have hi := firstI_lt q3
        have hat := hso i q3
        rw [hr.out] at hat
        have ez : firstZ 1028 L = (i : Int) := by unfold firstZ; rw [q3]
        rw [ez]
        have iz : ¬ (i : Int) < 0 := by omega
        clear ez q3 hno hso
        by_cases q4 : i + 1 = L.length
        · rw [if_neg (by omega)] at hat
          replace hat := Lib.hid hat
          have iq : ((i : Int) != (L.length : Int) - 1) = false := by rw [bne_eq_false_iff_eq]; omega
          obtain ⟨y, hy⟩ : ∃ y, L[i]? = some y := ⟨_, List.getElem?_eq_getElem hi⟩
          obtain ⟨g0, o0, g', c', rfl, hb0, hc0, hc1, hSk, hcy⟩ := hO3.ib.1.at i hi _ hy
          obtain ⟨y52, y1280⟩ := hfl y (List.mem_of_getElem? hy)
          replace hat := Lib.hid (show r = _ by rw [hat.out, getD_at hy])
          have hi0 : (0 : Int) ≤ (i : Int) := by omega
          have hi1 : (i : Int) < (L.length : Int) := by omega
          haveI := hb0
          have hpa := fun W H => pparse_any g' y.2.length c' y.2 W H hcy (by omega)
          clear hfl
          go_wp2_with fail
          clear f13 hc0 hc1
          (with_reducible refine (hpa w3 hSk).mono ?_)
          rintro e w4 ⟨p1, n1, k1, p2, n2, k2, rfl, hps, hx4⟩
          have hE4 := hE3.trans hx4
          have hP4 := hP3.extB hx4
          have hG4 := hG3.extB hx4
          have hO4 := hO3.ext hx4
          haveI := hP4.blt
          clear hE3 hP3 hG3 hO3 hpa hx4 hb0
          cases q5 : partsE y.2 with
          | none =>
            have er := Lib.hid (show r = (zeroP, 3) by rw [hat.out, q5])
            clear q5 hps
            go_wp2_with (first
              | (refine wpList_alloc_store (RG2) rfl rfl _ _ rfl rfl rfl rfl (by simp [Act.put]) ([.slice p1 n1 k1, .slice p2 n2 k2]) rfl (by simp) (rfl) ((by simp; repeat' (first | rfl | constructor))) ?_; intro x2 hz2 _)
              | (refine wpList_store_arr (RP16) rfl _ _ rfl (w.heap.size) (0) rfl ([.int .i64 0, .int .i64 0, .int .i64 0, .int .i64 0, .int .i64 0, .int .i64 0, .int .u32 0, .int .u32 0, .int .u32 0, .int .u64 0, .int .u64 0, .int .u64 0, .int .u64 0, .slice none 0 0, .slice none 0 0, .bool false]) rfl (32) _ ((hP4.extB (by repeat (first | (with_reducible first | exact Ext.refl _ | assumption | apply Ext.alloc | apply Ext.ext | apply Ext.drew | refine Ext.setCell ?_ ?_ _) | (focus (simp [go_sem]; done)))))) (rfl) (by simp) ((by simp; repeat' (first | rfl | constructor))) ?_; intro V hV hMV)
              | fail)
            refine bodyPost_ret (results_arr_tmp Tryz.results13 (RP16) _ _ (w.heap.size) (0) ([.int .i64 0, .int .i64 0, .int .i64 0, .int .i64 0, .int .i64 0, .int .i64 0, .int .u32 0, .int .u32 0, .int .u32 0, .int .u64 0, .int .u64 0, .int .u64 0, .int .u64 0, .slice none 0 0, .slice none 0 0, .bool false]) rfl (hV.rd) (rfl) (.int .i64 3) rfl) rfl ?_
            rw [er.out]
            exact PktE.err _ _ _ (Below.trans (hE4.trans (by repeat (first | (with_reducible first | exact Ext.refl _ | assumption | apply Ext.alloc | apply Ext.ext | apply Ext.drew | refine Ext.setCell ?_ ?_ _) | (focus (simp [go_sem]; done))))) (hMV.below (Nat.le_refl _) (Below.size (hE4.trans (by repeat (first | (with_reducible first | exact Ext.refl _ | assumption | apply Ext.alloc | apply Ext.ext | apply Ext.drew | refine Ext.setCell ?_ ?_ _) | (focus (simp [go_sem]; done))))))))
          | some z =>
            obtain ⟨v1, m1, v2, m2⟩ := hps z q5
            have hzl := partsE_sealed q5
            replace hat := Lib.hid (show r = _ by rw [hat.out, q5])
            clear q5 hps
            go_wp2_with (first
              | ((refine wpList_alloc_store (RG2) rfl rfl _ _ rfl rfl rfl rfl (by simp [Act.put]) ([.slice p1 n1 k1, .slice p2 n2 k2]) rfl (by simp) (rfl) ((by simp; repeat' (first | rfl | constructor))) ?_; intro x2 hz2 _); haveI := hz2.blt; have e0 := hz2.cell? 0 rfl; have e1 := hz2.cell? 1 rfl)
              | fail)
            refine nameW ?_
            intro W5 hW5
            have hE6 : Ext w4 W5 := by rw [hW5]; exact (by repeat (first | (with_reducible first | exact Ext.refl _ | assumption | apply Ext.alloc | apply Ext.ext | apply Ext.drew | refine Ext.setCell ?_ ?_ _) | (focus (simp [go_sem]; done))))
            have hg5 : Blk W5 w4.heap.size 86 [.slice p1 n1 k1, .slice p2 n2 k2] := by rw [hW5]; exact hz2.extB (by repeat (first | (with_reducible first | exact Ext.refl _ | assumption | apply Ext.alloc | apply Ext.ext | apply Ext.drew | refine Ext.setCell ?_ ?_ _) | (focus (simp [go_sem]; done))))
            clear hW5 hz2 e0 e1
            have hE5 := hE4.trans hE6
            have hP5 := hP4.extB hE6
            have hG5 := hG4.extB hE6
            have hO5 := hO4.ext hE6
            have v1 := v1.ext hE6
            have v2 := v2.ext hE6
            have hk5 := hk.ext hE5
            have hS5 := hS.ext hE5
            clear hE4 hP4 hG4 hO4 hE6
            obtain ⟨Q, hQ⟩ : ∃ Q, nb - y.2.length - 4 = Q := ⟨_, rfl⟩
            have hSQ := hS5.take Q (by omega)
            have hQc : Q ≤ cb := by omega
            have hQi : (nb : Int) - (y.2.length : Int) - 4 = (Q : Int) := by omega
            have hQ1 : (Q : Int) ≤ (cb : Int) := by omega
            have hat := hat.out
            rw [lb, hQ] at hat
            have hop := fun b' c' W H1 H2 H3 => open_any ak b' p2 32 ck 2 c' n2 k2 ky [b.take Q, z.1] z.2 W H1 hck H2 (by omega) H3 m2
            have hAl := Lib.hid (show (openE ky [b.take Q, z.1] z.2).1.length ≤ 1280 from Nat.le_trans openE_len (Nat.le_trans hzl y1280))
            generalize openE ky [b.take Q, z.1] z.2 = A at *
            replace hat := Lib.hid hat
            haveI := hg5.blt
            have e0 := hg5.cell? 0 rfl
            have e1 : W5.cell? ⟨w4.heap.size, 1, none⟩ = some (.slice p2 n2 k2) := hg5.cell? 1 rfl
            clear hQ y52 lb
            refine wp_region_vague 19 [[], [], [], [2], [], [4], [2, 3, 4, 5], [2, 3, 4, 5, 6], [1, 2, 3, 4, 5, 6, 7], [], [9], [1, 2, 3, 4, 5, 6, 7, 8, 9, 10], [], [12], [0, 1, 2, 3, 4, 5, 6, 7, 8, 9, 10, 11, 12, 13], [0, 1, 2, 3, 4, 5, 6, 7, 8, 9, 10, 11, 12, 13, 14], [0, 1, 2, 3, 4, 5, 6, 7, 8, 9, 10, 11, 12, 13, 14, 15], [0, 1, 2, 3, 4, 5, 6, 7, 8, 9, 10, 11, 12, 13, 14, 15], [0, 1, 2, 3, 4, 5, 6, 7, 8, 9, 10, 11, 12, 13, 14, 15, 16], [0, 1, 2, 3, 4, 5, 6, 7, 8, 9, 10, 11, 12, 13, 14, 15, 16, 17, 18]] (by kernel_rfl) (by kernel_rfl) (by kernel_rfl) (by kernel_rfl) ?_; simp only [List.take_succ_cons, List.take_zero, List.drop_succ_cons, List.drop_zero, List.take_nil, List.drop_nil]
            (repeat (apply VD_der; (case h => (intro us w' hx hf; obtain ⟨x, rfl⟩ := hx.out; refine ⟨rfl, ?_⟩; simp [go_sem, execOp, *]; (try simp (disch := omega) only [Go.IntWalk.i64_in, Go.IntWalk.rem_in, Go.IntWalk.wrap64_in]); rfl)); (try simp only [Act.put, List.setIfInBounds_toArray, List.set_cons_succ, List.set_cons_zero])))
            (refine VD_vag (fun p => .slice (p 0).1 2 2) (fun p w'' => Bsc w'' (p 0).1 2 [b.take Q, z.1]) (fun p w w' h hx => by first | exact h.ext hx | exact ⟨h.1.ext hx, h.2.ext hx⟩ | exact ⟨h.1.ext hx, h.2⟩ | exact ⟨h.1.ext hx, h.2.1.ext hx, h.2.2.ext hx⟩) (fun us w' hx hf => ⟨rfl, ?_⟩) ?_; (unfold gives; simp [go_sem, execOp]; exact ⟨fun _ => (some ⟨w'.heap.size, 0, none⟩, 0), rfl, Ext.of_alloc _ _, bsc2 (hSQ.ext hx) hQc (v1.ext hx) m1 _⟩))
            (repeat (apply VD_der; (case h => (intro us w' hx hf; obtain ⟨x, rfl⟩ := hx.out; refine ⟨rfl, ?_⟩; simp [go_sem, execOp, *]; (try simp (disch := omega) only [Go.IntWalk.i64_in, Go.IntWalk.rem_in, Go.IntWalk.wrap64_in]); rfl)); (try simp only [Act.put, List.setIfInBounds_toArray, List.set_cons_succ, List.set_cons_zero])))
            (refine VD_vag (fun p => .tuple #[.slice (p 0).1 (A.1.length) (p 0).2, .int .i64 A.2]) (fun p w'' => Sl w'' (p 0).1 (A.1.length) (A.1) ∧ (A.1.length) ≤ (p 0).2) (fun p w w' h hx => ⟨h.1.ext hx, h.2⟩) (fun us w' hx hf => ⟨rfl, ?_⟩) ?_; (unfold gives; simp [go_sem, execOp]; exact vag_read (hop _ _ _ (hk5.ext hx) (hf _ (List.mem_append_right _ (List.mem_singleton_self _)) rfl) (v2.ext hx))))
            (repeat (apply VD_der; (case h => (intro us w' hx hf; obtain ⟨x, rfl⟩ := hx.out; refine ⟨rfl, ?_⟩; simp [go_sem, execOp, *]; (try simp (disch := omega) only [Go.IntWalk.i64_in, Go.IntWalk.rem_in, Go.IntWalk.wrap64_in]); rfl)); (try simp only [Act.put, List.setIfInBounds_toArray, List.set_cons_succ, List.set_cons_zero])))
            (refine VD_nil ?_; intro us w' hx hf; obtain ⟨x, rfl⟩ := hx.out; (try simp only [Act.put, List.setIfInBounds_toArray, List.set_cons_succ, List.set_cons_zero, wpList_none]); (try simp only [List.mem_cons, List.not_mem_nil, or_false, forall_eq_or_imp, forall_eq, List.nil_append, List.cons_append, List.mem_append, false_or, true_and, and_true] at hf); (try simp only [Nat.reduceAdd, Nat.zero_add] at hf); (try simp only [Nat.reduceAdd, Nat.zero_add]))
            obtain ⟨-, hS7, hc7⟩ := hf
            obtain ⟨p7, hp7⟩ : ∃ a, (us 14 0).1 = a := ⟨_, rfl⟩
            obtain ⟨k7, hk7⟩ : ∃ a, (us 14 0).2 = a := ⟨_, rfl⟩
            rw [hp7] at hS7 ⊢
            rw [hk7] at hc7 ⊢
            clear hp7 hk7 e0 e1 hg5 v1 v2 hSQ hk5 hS5 hop hQi hQ1 hQc
            have hx7 : Ext W5 (W5.ext x) := Ext.of_ext _ _
            have hE7 := hE5.trans hx7
            have hP7 := hP5.extB hx7
            have hG7 := hG5.extB hx7
            have hO7 := hO5.ext hx7
            clear hE5 hP5 hG5 hO5 hx7
            generalize W5.ext x = W7 at *
            haveI := hP7.blt
            by_cases q8 : A.2 = 0
            · rw [q8]
              have hdf := fun W H => xdecode_any p7 A.1.length k7 A.1 W H hc7 (Nat.le_trans hAl.out (by decide))
              replace hat := Lib.hid (show r = _ by rw [hat.out, if_neg (by simpa using q8)])
              clear q8
              generalize A.1 = D at *
              go_wp2_with fail
              (with_reducible refine (hdf W7 hS7).mono ?_)
              rintro e w8 ⟨b8, d8, rfl, hO8, hx8⟩
              have hE8 := hE7.trans hx8
              have hP8 := hP7.extB hx8
              have hG8 := hG7.extB hx8
              have hO7 := hO7.ext hx8
              clear hE7 hP7 hG7 hS7 hx8 hdf
              haveI := hP8.blt
              haveI := hG8.blt
              have g13 : w8.cell? ⟨w1.heap.size, 13, none⟩ = some (.slice (some ⟨g0, o0, none⟩) L.length d1) := hG8.cell? 13 rfl
              by_cases q9 : (decF D).2 = 0
              · rw [q9]
                have er := Lib.hid (show r = (⟨H, L.take i, (decF D).1, true⟩, 0) by rw [hat.out, if_neg (by simpa using q9)])
                clear q9 hat
                generalize (decF D).1 = S at *
                have l1 : (i : Int) ≤ (d1 : Int) := by omega
                have l2 : (i : Int) ≤ (i : Int) := Int.le_refl _
                have hil : i ≤ L.length := by omega
                have hGl : Rd w8 (some ⟨w1.heap.size, 0, none⟩) [.int .i64 H.leap, .int .i64 H.ver, .int .i64 H.mode, .int .i64 H.strat, .int .i64 H.poll, .int .i64 H.prec, .int .u32 (n32 H.rd), .int .u32 (n32 H.rp), .int .u32 (n32 H.id), .int .u64 (n64 H.ref), .int .u64 (n64 H.org), .int .u64 (n64 H.rcv), .int .u64 (n64 H.tx)] := Rd.left (vs := [.int .i64 H.leap, .int .i64 H.ver, .int .i64 H.mode, .int .i64 H.strat, .int .i64 H.poll, .int .i64 H.prec, .int .u32 (n32 H.rd), .int .u32 (n32 H.rp), .int .u32 (n32 H.id), .int .u64 (n64 H.ref), .int .u64 (n64 H.org), .int .u64 (n64 H.rcv), .int .u64 (n64 H.tx)]) (us := [.slice (some ⟨g0, o0, none⟩) L.length d1, .slice none 0 0, .bool false]) hG8.rd
                clear q4 iq iz hi hi1 hi0 hy
                go_wp2_with fail
                refine wp_region_vague 9 [[], [0], [], [2], [], [], [2, 3, 4, 5], [], [0, 1, 2, 3, 4, 5, 6, 7], [0, 1, 2, 3, 4, 5, 6, 7, 8], [0, 1, 2, 3, 4, 5, 6, 7, 8, 9]] (by kernel_rfl) (by kernel_rfl) (by kernel_rfl) (by kernel_rfl) ?_; simp only [List.take_succ_cons, List.take_zero, List.drop_succ_cons, List.drop_zero, List.take_nil, List.drop_nil]
                (repeat (apply VD_der; (case h => (intro us w' hx hf; obtain ⟨x, rfl⟩ := hx.out; refine ⟨rfl, ?_⟩; simp [go_sem, execOp, *]; (try simp (disch := omega) only [Go.IntWalk.i64_in, Go.IntWalk.rem_in, Go.IntWalk.wrap64_in]); rfl)); (try simp only [Act.put, List.setIfInBounds_toArray, List.set_cons_succ, List.set_cons_zero])))
                (refine VD_load_arr (RH13) _ rfl (fun _ => rfl) (w1.heap.size) (0) (fun _ => by simp [go_sem]) ([.int .i64 H.leap, .int .i64 H.ver, .int .i64 H.mode, .int .i64 H.strat, .int .i64 H.poll, .int .i64 H.prec, .int .u32 (n32 H.rd), .int .u32 (n32 H.rp), .int .u32 (n32 H.id), .int .u64 (n64 H.ref), .int .u64 (n64 H.org), .int .u64 (n64 H.rcv), .int .u64 (n64 H.tx)]) (hGl) (rfl) ?_)
                (repeat (apply VD_der; (case h => (intro us w' hx hf; obtain ⟨x, rfl⟩ := hx.out; refine ⟨rfl, ?_⟩; simp [go_sem, execOp, *]; (try simp (disch := omega) only [Go.IntWalk.i64_in, Go.IntWalk.rem_in, Go.IntWalk.wrap64_in]); rfl)); (try simp only [Act.put, List.setIfInBounds_toArray, List.set_cons_succ, List.set_cons_zero])))
                (refine VD_nil ?_; intro us w' hx hf; obtain ⟨x, rfl⟩ := hx.out; (try simp only [Act.put, List.setIfInBounds_toArray, List.set_cons_succ, List.set_cons_zero, wpList_none]); (try simp only [List.mem_cons, List.not_mem_nil, or_false, forall_eq_or_imp, forall_eq, List.nil_append, List.cons_append, List.mem_append, false_or, true_and, and_true] at hf); (try simp only [Nat.reduceAdd, Nat.zero_add] at hf); (try simp only [Nat.reduceAdd, Nat.zero_add]))
                have hx9 : Ext w8 (w8.ext x) := Ext.of_ext _ _
                have hE9 := hE8.trans hx9
                have hP9 := hP8.extB hx9
                have hO7 := hO7.ext hx9
                have hO8 := hO8.ext hx9
                generalize w8.ext x = W9 at *
                haveI := hP9.blt
                clear hf hx9 hE8 hP8 hG8 hGl g13
                go_wp2_with (first
                  | (refine wpList_store_arr (RP16) rfl _ _ rfl (w.heap.size) (0) rfl ([.int .i64 H.leap, .int .i64 H.ver, .int .i64 H.mode, .int .i64 H.strat, .int .i64 H.poll, .int .i64 H.prec, .int .u32 (n32 H.rd), .int .u32 (n32 H.rp), .int .u32 (n32 H.id), .int .u64 (n64 H.ref), .int .u64 (n64 H.org), .int .u64 (n64 H.rcv), .int .u64 (n64 H.tx), .slice (some ⟨g0, o0, none⟩) i i, .slice b8 S.length d8, .bool true]) rfl (32) _ (hP9) (rfl) (by simp) ((by simp; repeat' (first | rfl | constructor))) ?_; intro V hV hMV)
                  | fail)
                refine bodyPost_ret (results_arr_tmp Tryz.results13 (RP16) _ _ (w.heap.size) (0) ([.int .i64 H.leap, .int .i64 H.ver, .int .i64 H.mode, .int .i64 H.strat, .int .i64 H.poll, .int .i64 H.prec, .int .u32 (n32 H.rd), .int .u32 (n32 H.rp), .int .u32 (n32 H.id), .int .u64 (n64 H.ref), .int .u64 (n64 H.org), .int .u64 (n64 H.rcv), .int .u64 (n64 H.tx), .slice (some ⟨g0, o0, none⟩) i i, .slice b8 S.length d8, .bool true]) rfl (hV.rd) (rfl) (.int .i64 0) rfl) rfl ?_
                rw [er.out]
                exact ⟨_, _, _, _, _, _, rfl, (hO7.mut hP9 (by decide) (by simp) hMV).ib.1.take i hil, Nat.le_refl _, (hO8.mut hP9 (by decide) (by simp) hMV).ib.1, (hO8.mut hP9 (by decide) (by simp) hMV).ib.2, Below.trans hE9 (hMV.below (Nat.le_refl _) hE9.size)⟩
              · have er := Lib.hid (show r = (zeroP, (decF D).2) by rw [hat.out, if_pos q9])
                have i9 := ne0 q9
                generalize (decF D).2 = v9 at *
                generalize (decF D).1 = S at *
                clear q9 hat
                go_wp2_with (first
                  | (refine wpList_store_arr (RP16) rfl _ _ rfl (w.heap.size) (0) rfl ([.int .i64 0, .int .i64 0, .int .i64 0, .int .i64 0, .int .i64 0, .int .i64 0, .int .u32 0, .int .u32 0, .int .u32 0, .int .u64 0, .int .u64 0, .int .u64 0, .int .u64 0, .slice none 0 0, .slice none 0 0, .bool false]) rfl (32) _ ((hP8.extB (by repeat (first | (with_reducible first | exact Ext.refl _ | assumption | apply Ext.alloc | apply Ext.ext | apply Ext.drew | refine Ext.setCell ?_ ?_ _) | (focus (simp [go_sem]; done)))))) (rfl) (by simp) ((by simp; repeat' (first | rfl | constructor))) ?_; intro V hV hMV)
                  | fail)
                refine bodyPost_ret (results_arr_tmp Tryz.results13 (RP16) _ _ (w.heap.size) (0) ([.int .i64 0, .int .i64 0, .int .i64 0, .int .i64 0, .int .i64 0, .int .i64 0, .int .u32 0, .int .u32 0, .int .u32 0, .int .u64 0, .int .u64 0, .int .u64 0, .int .u64 0, .slice none 0 0, .slice none 0 0, .bool false]) rfl (hV.rd) (rfl) (.int .i64 v9) rfl) rfl ?_
                rw [er.out]
                exact PktE.err _ _ _ (Below.trans (hE8.trans (by repeat (first | (with_reducible first | exact Ext.refl _ | assumption | apply Ext.alloc | apply Ext.ext | apply Ext.drew | refine Ext.setCell ?_ ?_ _) | (focus (simp [go_sem]; done))))) (hMV.below (Nat.le_refl _) (Below.size (hE8.trans (by repeat (first | (with_reducible first | exact Ext.refl _ | assumption | apply Ext.alloc | apply Ext.ext | apply Ext.drew | refine Ext.setCell ?_ ?_ _) | (focus (simp [go_sem]; done))))))))
            · have er := Lib.hid (show r = (zeroP, 6) by rw [hat.out, if_pos q8])
              have i8 := ne0 q8
              generalize A.2 = v8 at *
              generalize A.1 = D at *
              clear q8 hat
              go_wp2_with (first
                | (refine wpList_store_arr (RP16) rfl _ _ rfl (w.heap.size) (0) rfl ([.int .i64 0, .int .i64 0, .int .i64 0, .int .i64 0, .int .i64 0, .int .i64 0, .int .u32 0, .int .u32 0, .int .u32 0, .int .u64 0, .int .u64 0, .int .u64 0, .int .u64 0, .slice none 0 0, .slice none 0 0, .bool false]) rfl (32) _ ((hP7.extB (by repeat (first | (with_reducible first | exact Ext.refl _ | assumption | apply Ext.alloc | apply Ext.ext | apply Ext.drew | refine Ext.setCell ?_ ?_ _) | (focus (simp [go_sem]; done)))))) (rfl) (by simp) ((by simp; repeat' (first | rfl | constructor))) ?_; intro V hV hMV)
                | fail)
              refine bodyPost_ret (results_arr_tmp Tryz.results13 (RP16) _ _ (w.heap.size) (0) ([.int .i64 0, .int .i64 0, .int .i64 0, .int .i64 0, .int .i64 0, .int .i64 0, .int .u32 0, .int .u32 0, .int .u32 0, .int .u64 0, .int .u64 0, .int .u64 0, .int .u64 0, .slice none 0 0, .slice none 0 0, .bool false]) rfl (hV.rd) (rfl) (.int .i64 6) rfl) rfl ?_
              rw [er.out]
              exact PktE.err _ _ _ (Below.trans (hE7.trans (by repeat (first | (with_reducible first | exact Ext.refl _ | assumption | apply Ext.alloc | apply Ext.ext | apply Ext.drew | refine Ext.setCell ?_ ?_ _) | (focus (simp [go_sem]; done))))) (hMV.below (Nat.le_refl _) (Below.size (hE7.trans (by repeat (first | (with_reducible first | exact Ext.refl _ | assumption | apply Ext.alloc | apply Ext.ext | apply Ext.drew | refine Ext.setCell ?_ ?_ _) | (focus (simp [go_sem]; done))))))))
        · rw [if_pos (by omega)] at hat
          have er := Lib.hid hat
          have iq : ((i : Int) != (L.length : Int) - 1) = true := by rw [bne_iff_ne]; omega
          clear hat
          go_wp2_with (first
            | (refine wpList_store_arr (RP16) rfl _ _ rfl (w.heap.size) (0) rfl ([.int .i64 0, .int .i64 0, .int .i64 0, .int .i64 0, .int .i64 0, .int .i64 0, .int .u32 0, .int .u32 0, .int .u32 0, .int .u64 0, .int .u64 0, .int .u64 0, .int .u64 0, .slice none 0 0, .slice none 0 0, .bool false]) rfl (32) _ ((hP3.extB (by repeat (first | (with_reducible first | exact Ext.refl _ | assumption | apply Ext.alloc | apply Ext.ext | apply Ext.drew | refine Ext.setCell ?_ ?_ _) | (focus (simp [go_sem]; done)))))) (rfl) (by simp) ((by simp; repeat' (first | rfl | constructor))) ?_; intro V hV hMV)
            | fail)
          refine bodyPost_ret (results_arr_tmp Tryz.results13 (RP16) _ _ (w.heap.size) (0) ([.int .i64 0, .int .i64 0, .int .i64 0, .int .i64 0, .int .i64 0, .int .i64 0, .int .u32 0, .int .u32 0, .int .u32 0, .int .u64 0, .int .u64 0, .int .u64 0, .int .u64 0, .slice none 0 0, .slice none 0 0, .bool false]) rfl (hV.rd) (rfl) (.int .i64 3) rfl) rfl ?_
          rw [er.out]
          exact PktE.err _ _ _ (Below.trans (hE3.trans (by repeat (first | (with_reducible first | exact Ext.refl _ | assumption | apply Ext.alloc | apply Ext.ext | apply Ext.drew | refine Ext.setCell ?_ ?_ _) | (focus (simp [go_sem]; done))))) (hMV.below (Nat.le_refl _) (Below.size (hE3.trans (by repeat (first | (with_reducible first | exact Ext.refl _ | assumption | apply Ext.alloc | apply Ext.ext | apply Ext.drew | refine Ext.setCell ?_ ?_ _) | (focus (simp [go_sem]; done))))))))
    · have er := Lib.hid (show r = (zeroP, (readE b).2) by rw [← hr.out]; exact openP_read q1' q2)
      have i2 := ne0 q2
      generalize (readE b).2 = v at *
      generalize (readE b).1.plain = L at *
      generalize (readE b).1.h = H at *
      clear q2
      go_wp2_with (first
        | (refine wpList_alloc_store (RP16) rfl rfl _ _ rfl rfl rfl rfl (by simp [Act.put]) ([.int .i64 H.leap, .int .i64 H.ver, .int .i64 H.mode, .int .i64 H.strat, .int .i64 H.poll, .int .i64 H.prec, .int .u32 (n32 H.rd), .int .u32 (n32 H.rp), .int .u32 (n32 H.id), .int .u64 (n64 H.ref), .int .u64 (n64 H.org), .int .u64 (n64 H.rcv), .int .u64 (n64 H.tx), .slice b1 L.length d1, .slice none 0 0, .bool false]) rfl (by simp) (rfl) ((by simp; repeat' (first | rfl | constructor))) ?_; intro x hz _)
        | (refine wpList_store_arr (RP16) rfl _ _ rfl (w.heap.size) (0) rfl ([.int .i64 0, .int .i64 0, .int .i64 0, .int .i64 0, .int .i64 0, .int .i64 0, .int .u32 0, .int .u32 0, .int .u32 0, .int .u64 0, .int .u64 0, .int .u64 0, .int .u64 0, .slice none 0 0, .slice none 0 0, .bool false]) rfl (32) _ ((hP1.extB (by repeat (first | (with_reducible first | exact Ext.refl _ | assumption | apply Ext.alloc | apply Ext.ext | apply Ext.drew | refine Ext.setCell ?_ ?_ _) | (focus (simp [go_sem]; done)))))) (rfl) (by simp) ((by simp; repeat' (first | rfl | constructor))) ?_; intro V hV hMV)
        | fail)
      refine bodyPost_ret (results_arr_tmp Tryz.results13 (RP16) _ _ (w.heap.size) (0) ([.int .i64 0, .int .i64 0, .int .i64 0, .int .i64 0, .int .i64 0, .int .i64 0, .int .u32 0, .int .u32 0, .int .u32 0, .int .u64 0, .int .u64 0, .int .u64 0, .int .u64 0, .slice none 0 0, .slice none 0 0, .bool false]) rfl (hV.rd) (rfl) (.int .i64 v) rfl) rfl ?_
      rw [er.out]
      exact PktE.err _ _ _ (Below.trans (hE1.trans (by repeat (first | (with_reducible first | exact Ext.refl _ | assumption | apply Ext.alloc | apply Ext.ext | apply Ext.drew | refine Ext.setCell ?_ ?_ _) | (focus (simp [go_sem]; done))))) (hMV.below (Nat.le_refl _) (Below.size (hE1.trans (by repeat (first | (with_reducible first | exact Ext.refl _ | assumption | apply Ext.alloc | apply Ext.ext | apply Ext.drew | refine Ext.setCell ?_ ?_ _) | (focus (simp [go_sem]; done))))))))
  · have er := Lib.hid (show r = (zeroP, 5) by rw [← hr.out]; exact openP_key (by omega))
    have i1 : ((nk : Int) != 32) = true := by rw [bne_iff_ne]; omega
    clear lk lb q1
    go_enter Tryz.func13, Tryz.ntmps13
    go_wp2_with (first
      | (refine wpList_store_arr (RP16) rfl _ _ rfl (w.heap.size) (0) rfl ([.int .i64 0, .int .i64 0, .int .i64 0, .int .i64 0, .int .i64 0, .int .i64 0, .int .u32 0, .int .u32 0, .int .u32 0, .int .u64 0, .int .u64 0, .int .u64 0, .int .u64 0, .slice none 0 0, .slice none 0 0, .bool false]) rfl (32) _ ((Blk.new w #[.int .i64 0, .int .i64 0, .int .i64 0, .int .i64 0, .int .i64 0, .int .i64 0, .int .u32 0, .int .u32 0, .int .u32 0, .int .u64 0, .int .u64 0, .int .u64 0, .int .u64 0, .slice none 0 0, .slice none 0 0, .bool false] 32)) (rfl) (by simp) ((by simp; repeat' (first | rfl | constructor))) ?_; intro V hV hMV)
      | fail)
    refine bodyPost_ret (results_arr_tmp Tryz.results13 (RP16) _ _ (w.heap.size) (0) ([.int .i64 0, .int .i64 0, .int .i64 0, .int .i64 0, .int .i64 0, .int .i64 0, .int .u32 0, .int .u32 0, .int .u32 0, .int .u64 0, .int .u64 0, .int .u64 0, .int .u64 0, .slice none 0 0, .slice none 0 0, .bool false]) rfl (hV.rd) (rfl) (.int .i64 5) rfl) rfl ?_
    rw [er.out]
    exact PktE.err _ _ _ (Below.trans (Ext.of_alloc _ _) (hMV.below (Nat.le_refl _) (by simp)))
end Go.Proofs.YtdmifbfgeeldnaaGreat

/- The walks of layer 18 of the document: Open. -/
namespace Go.Pkt
theorem readE_dec {b : List UInt8} (h : (readE b).2 = 0) : decF (b.drop 48) = ((readE b).1.plain, 0) := by
  by_cases h1 : (decH b).2 = 0
  · by_cases h2 : (decF (decH b).1.2).2 = 0
    · obtain ⟨a1, a2, a3⟩ := decH_ok h1
      rw [readE_ok h1 h2, ← a3, ← h2]
    · rw [readE_flds h1 h2] at h; exact absurd h h2
  · rw [readE_head h1] at h; exact absurd h h1
theorem plcL_at {A : List Fld} {i : Nat} (h : i < A.length) : (plcL A)[i]'(by rw [plcL_length]; exact h) = ((totN (A.take i) : Nat) : Int) := by
  unfold plcL; simp
end Go.Pkt
namespace Go.Proofs.YtdmifbfgeeldnaaGreat
open Go.RowKit Go.Sec Go.Oct Go.Pkt Go.Aes BigFrame

def PtV (r : Option (List UInt8 × List UInt8)) (p : Par) : Value := .tuple #[.slice (p 0).1 (p 3).2 (p 0).2, .slice (p 1).1 (p 4).2 (p 1).2, .bool r.isSome]
def PtR (r : Option (List UInt8 × List UInt8)) (p : Par) (w : World) : Prop := ∀ x, r = some x → Sl w (p 0).1 (p 3).2 x.1 ∧ (p 3).2 ≤ (p 0).2 ∧ Sl w (p 1).1 (p 4).2 x.2 ∧ (p 4).2 ≤ (p 1).2
theorem PtR.ext {r : Option (List UInt8 × List UInt8)} {p : Par} {w w' : World} (h : PtR r p w) (hx : Ext w w') : PtR r p w' := fun x e => by
  obtain ⟨h1, h2, h3, h4⟩ := h x e
  exact ⟨h1.ext hx, h2, h3.ext hx, h4⟩
theorem vag_parts {r : Option (List UInt8 × List UInt8)} {f : FuncId} {args : Array Value} {w : World} (h : Calls Tryz.prog f args w (RPartsE r w)) : Calls Tryz.prog f args w fun e w' => ∃ v, e = .returned v ∧ ∃ p : Par, v = PtV r p ∧ Ext w w' ∧ PtR r p w' := by
  refine h.mono ?_
  rintro e w' ⟨a1, n1, c1, a2, n2, c2, rfl, hp, hx⟩
  exact ⟨_, rfl, fun i => if i = 0 then (a1, c1) else if i = 1 then (a2, c2) else if i = 3 then (none, n1) else (none, n2), rfl, hx, hp⟩

set_option maxRecDepth 100000 in
set_option maxHeartbeats 2000000 in
theorem ropenp_any (ak ab : Option Addr) (nk ck nb cb : Nat) (ky b : List UInt8) (w : World) (hk : Sl w ak nk ky) (hck : nk ≤ ck) (hS : Sl w ab nb b) (hcb : nb ≤ cb) (hn : nb ≤ 1000000) :
    Calls Tryz.prog 15 #[.slice ak nk ck, .slice ab nb cb] w (PktE (openP ky b) w) := by
  have lk := hk.len
  have lb := hS.len
  have hrd := fun W H => rpread_any ab nb cb b W H hcb hn
  obtain ⟨r, hr⟩ : ∃ r, openP ky b = r := ⟨_, rfl⟩
  rw [hr]
  have hr := Lib.hid hr
  by_cases q1 : nk = 32
  · have q1' : ky.length = 32 := by omega
    subst q1
    go_enter Tryz.func15, Tryz.ntmps15
    go_wp2_with fail
    refine nameCl ?_
    intro W hW
    have hE : Ext w W := by rw [hW]; exact (by repeat (first | (with_reducible first | exact Ext.refl _ | assumption | apply Ext.alloc | apply Ext.ext | apply Ext.drew | refine Ext.setCell ?_ ?_ _) | (focus (simp [go_sem]; done))))
    have hP : Blk W w.heap.size 32 [.int .i64 0, .int .i64 0, .int .i64 0, .int .i64 0, .int .i64 0, .int .i64 0, .int .u32 0, .int .u32 0, .int .u32 0, .int .u64 0, .int .u64 0, .int .u64 0, .int .u64 0, .slice none 0 0, .slice none 0 0, .bool false] := by rw [hW]; exact (by repeat (first | assumption | (refine Blk.newAt _ _ _ _ ?_; first | rfl | (simp only [World.size_alloc]; done)) | apply Blk.ext | apply Blk.alloc | (refine Blk.other ?_ ?_ _; rotate_left; (simp <;> omega))))
    clear hW
    (with_reducible refine (hrd W (hS.ext hE)).mono ?_)
    rintro e w1 ⟨b1, d1, rfl, ⟨B1, hO1⟩, hx1⟩
    have hE1 := hE.trans hx1
    have hP1 := hP.extB hx1
    have hlt := hP1.lt
    haveI := hP1.blt
    clear hE hP hx1 hrd
    by_cases q2 : (readE b).2 = 0
    · rw [q2]
      have hsp := readE_spec q2
      have hfl := fun f hf => readE_fld q2 (f := f) hf
      have hso := fun i h => openP_some (i := i) q1' q2 h
      have hno := fun h => openP_none q1' q2 h
      have hdF := readE_dec q2
      unfold openAt at hso
      generalize (readE b).1.plain = L at *
      generalize (readE b).1.h = H at *
      go_wp2_with (first
        | ((refine wpList_alloc_store (RP16) rfl rfl _ _ rfl rfl rfl rfl (by simp [Act.put]) ([.int .i64 H.leap, .int .i64 H.ver, .int .i64 H.mode, .int .i64 H.strat, .int .i64 H.poll, .int .i64 H.prec, .int .u32 (n32 H.rd), .int .u32 (n32 H.rp), .int .u32 (n32 H.id), .int .u64 (n64 H.ref), .int .u64 (n64 H.org), .int .u64 (n64 H.rcv), .int .u64 (n64 H.tx), .slice b1 L.length d1, .slice none 0 0, .bool false]) rfl (by simp) (rfl) ((by simp; repeat' (first | rfl | constructor))) ?_; intro x hz _); haveI := hz.blt; have f13 := hz.cell? 13 rfl)
        | fail)
      refine nameCl ?_
      intro W2 hW2
      have hx2 : Ext w1 W2 := by rw [hW2]; exact (by repeat (first | (with_reducible first | exact Ext.refl _ | assumption | apply Ext.alloc | apply Ext.ext | apply Ext.drew | refine Ext.setCell ?_ ?_ _) | (focus (simp [go_sem]; done))))
      have hG : Blk W2 w1.heap.size 32 [.int .i64 H.leap, .int .i64 H.ver, .int .i64 H.mode, .int .i64 H.strat, .int .i64 H.poll, .int .i64 H.prec, .int .u32 (n32 H.rd), .int .u32 (n32 H.rp), .int .u32 (n32 H.id), .int .u64 (n64 H.ref), .int .u64 (n64 H.org), .int .u64 (n64 H.rcv), .int .u64 (n64 H.tx), .slice b1 L.length d1, .slice none 0 0, .bool false] := by rw [hW2]; exact hz.extB (by repeat (first | (with_reducible first | exact Ext.refl _ | assumption | apply Ext.alloc | apply Ext.ext | apply Ext.drew | refine Ext.setCell ?_ ?_ _) | (focus (simp [go_sem]; done))))
      have hP2 := hP1.extB hx2
      have hE2 := hE1.trans hx2
      have hO2 := hO1.ext hx2
      clear hW2 hx2 hE1 hP1 hO1 f13 hz
      (with_reducible refine (rxfind_any 1028 b1 L.length d1 L W2 hO2.ib.1 (by omega)).mono ?_)
      rintro e w3 ⟨bx, dx, rfl, hOx, hx3⟩
      have hG3 := hG.extB hx3
      have hP3 := hP2.extB hx3
      have hE3 := hE2.trans hx3
      have hO3 := hO2.ext hx3
      clear hG hP2 hE2 hO2 hx3
      have hdc : L.length ≤ d1 := hO3.ib.2
      haveI := hP3.blt
      haveI := hG3.blt
      have f13 : w3.cell? ⟨w1.heap.size, 13, none⟩ = some (.slice b1 L.length d1) := hG3.cell? 13 rfl
      cases q3 : firstI 1028 L with
      | none =>
        have er := Lib.hid (show r = (zeroP, 10) by rw [← hr.out]; exact hno q3)
        have hix : ixs 1028 L L.length = [] := List.head?_eq_none_iff.1 q3
        rw [hix] at hOx ⊢
        clear hix q3 hno hso
        go_wp2_with (first
          | (refine wpList_store_arr (RP16) rfl _ _ rfl (w.heap.size) (0) rfl ([.int .i64 0, .int .i64 0, .int .i64 0, .int .i64 0, .int .i64 0, .int .i64 0, .int .u32 0, .int .u32 0, .int .u32 0, .int .u64 0, .int .u64 0, .int .u64 0, .int .u64 0, .slice none 0 0, .slice none 0 0, .bool false]) rfl (32) _ ((hP3.extB (by repeat (first | (with_reducible first | exact Ext.refl _ | assumption | apply Ext.alloc | apply Ext.ext | apply Ext.drew | refine Ext.setCell ?_ ?_ _) | (focus (simp [go_sem]; done)))))) (rfl) (by simp) ((by simp; repeat' (first | rfl | constructor))) ?_; intro V hV hMV)
          | fail)
        refine bodyPost_ret (results_arr_tmp Tryz.results15 (RP16) _ _ (w.heap.size) (0) ([.int .i64 0, .int .i64 0, .int .i64 0, .int .i64 0, .int .i64 0, .int .i64 0, .int .u32 0, .int .u32 0, .int .u32 0, .int .u64 0, .int .u64 0, .int .u64 0, .int .u64 0, .slice none 0 0, .slice none 0 0, .bool false]) rfl (hV.rd) (rfl) (.int .i64 10) rfl) rfl ?_
        rw [er.out]
        exact PktE.err _ _ _ (Below.trans (hE3.trans (by repeat (first | (with_reducible first | exact Ext.refl _ | assumption | apply Ext.alloc | apply Ext.ext | apply Ext.drew | refine Ext.setCell ?_ ?_ _) | (focus (simp [go_sem]; done))))) (hMV.below (Nat.le_refl _) (Below.size (hE3.trans (by repeat (first | (with_reducible first | exact Ext.refl _ | assumption | apply Ext.alloc | apply Ext.ext | apply Ext.drew | refine Ext.setCell ?_ ?_ _) | (focus (simp [go_sem]; done))))))))
      | some i =>
        have hi := firstI_lt q3
        have hat := hso i q3
        rw [hr.out] at hat
        obtain ⟨rest, hix⟩ : ∃ rest, ixs 1028 L L.length = i :: rest := by
          unfold firstI at q3
          cases hc : ixs 1028 L L.length with
          | nil => rw [hc] at q3; cases q3
          | cons y R => rw [hc] at q3; injection q3 with q3; subst q3; exact ⟨R, rfl⟩
        rw [hix] at hOx ⊢
        obtain ⟨M, hM⟩ : ∃ M, (i :: rest).length = M := ⟨_, rfl⟩
        have hM0 : 0 < M := by rw [← hM]; simp
        have hMi : ¬ (M : Int) = 0 := by omega
        have hrdx := hOx.rd
        rw [hM] at hOx ⊢
        obtain ⟨xb, xo, rfl, hxb, hxc⟩ := hrdx.at 0 (by simp)
        have hxc : w3.cell? ⟨xb, xo, none⟩ = some (.int .i64 (i : Int)) := hxc
        haveI := hxb
        have hxlt := hxb.lt
        clear q3 hno hso hM hix hOx hrdx
        by_cases q4 : i + 1 = L.length
        · rw [if_neg (by omega)] at hat
          replace hat := Lib.hid hat
          have iq : ((i : Int) != (L.length : Int) - 1) = false := by rw [bne_eq_false_iff_eq]; omega
          obtain ⟨y, hy⟩ : ∃ y, L[i]? = some y := ⟨_, List.getElem?_eq_getElem hi⟩
          obtain ⟨y52, y1280⟩ := hfl y (List.mem_of_getElem? hy)
          have hyok := hsp.2.2.2.2 y (List.mem_of_getElem? hy)
          have htk : totN L = totN (L.take i) + szN y.2.length := by
            have := totN_snoc (L.take i) y
            rwa [← take_at hy, q4, List.take_of_length_le (Nat.le_refl _)] at this
          have hsz : szN y.2.length = y.2.length + 4 := by unfold szN; omega
          replace hat := Lib.hid (show r = _ by rw [hat.out, getD_at hy])
          have hi0 : (0 : Int) ≤ (i : Int) := by omega
          have hi1 : (i : Int) < (L.length : Int) := by omega
          clear hfl
          go_wp2_with fail
          refine wp_region_vague 8 [[], [0], [0, 1], [], [3], [3, 4], [3, 4, 5], [0, 1, 2, 3, 4, 5, 6]] (by kernel_rfl) (by kernel_rfl) (by kernel_rfl) (by kernel_rfl) ?_; simp only [List.take_succ_cons, List.take_zero, List.drop_succ_cons, List.drop_zero, List.take_nil, List.drop_nil]
          (repeat (apply VD_der; (case h => (intro us w' hx hf; obtain ⟨x, rfl⟩ := hx.out; refine ⟨rfl, ?_⟩; simp [go_sem, execOp, *]; (try simp (disch := omega) only [Go.IntWalk.i64_in, Go.IntWalk.rem_in, Go.IntWalk.wrap64_in]); rfl)); (try simp only [Act.put, List.setIfInBounds_toArray, List.set_cons_succ, List.set_cons_zero])))
          (refine VD_nil ?_; intro us w' hx hf; obtain ⟨x, rfl⟩ := hx.out; (try simp only [Act.put, List.setIfInBounds_toArray, List.set_cons_succ, List.set_cons_zero, wpList_none]); (try simp only [List.mem_cons, List.not_mem_nil, or_false, forall_eq_or_imp, forall_eq, List.nil_append, List.cons_append, List.mem_append, false_or, true_and, and_true] at hf); (try simp only [Nat.reduceAdd, Nat.zero_add] at hf); (try simp only [Nat.reduceAdd, Nat.zero_add]))
          have hxa : Ext w3 (w3.ext x) := Ext.of_ext _ _
          have hxc := (hxa.cell (p := ⟨xb, xo, none⟩) hxlt).trans hxc
          have hG3 := hG3.extB hxa
          have hP3 := hP3.extB hxa
          have hE3 := hE3.trans hxa
          have hO3 := hO3.ext hxa
          have hxlt := Nat.lt_of_lt_of_le hxlt hxa.size
          clear f13
          generalize w3.ext x = w3 at *
          haveI : BlkLt xb w3 := ⟨hxlt⟩
          haveI := hP3.blt
          haveI := hG3.blt
          have f13 : w3.cell? ⟨w1.heap.size, 13, none⟩ = some (.slice b1 L.length d1) := hG3.cell? 13 rfl
          obtain ⟨g0, o0, g', c', rfl, hb0, hc0, hc1, hSk, hcy⟩ := hO3.ib.1.at i hi _ hy
          haveI := hb0
          have hpa := fun W H => rparts_any g' y.2.length c' y.2 W H hcy (by omega)
          go_wp2_with fail
          refine wp_region_vague 15 [[], [0], [], [2], [2, 3], [0, 1, 2, 3, 4], [0, 1, 2, 3, 4, 5], [0, 1, 2, 3, 4, 5, 6], [0, 1, 2, 3, 4, 5, 6, 7], [0, 1, 2, 3, 4, 5, 6, 7, 8], [0, 1, 2, 3, 4, 5, 6, 7, 8, 9], [0, 1, 2, 3, 4, 5, 6, 7, 8, 9], [0, 1, 2, 3, 4, 5, 6, 7, 8, 9], [0, 1, 2, 3, 4, 5, 6, 7, 8, 9, 10], [0, 1, 2, 3, 4, 5, 6, 7, 8, 9, 10, 11, 13], [0, 1, 2, 3, 4, 5, 6, 7, 8, 9, 10, 11, 12, 13, 14]] (by kernel_rfl) (by kernel_rfl) (by kernel_rfl) (by kernel_rfl) ?_; simp only [List.take_succ_cons, List.take_zero, List.drop_succ_cons, List.drop_zero, List.take_nil, List.drop_nil]
          (repeat (apply VD_der; (case h => (intro us w' hx hf; obtain ⟨x, rfl⟩ := hx.out; refine ⟨rfl, ?_⟩; simp [go_sem, execOp, *]; (try simp (disch := omega) only [Go.IntWalk.i64_in, Go.IntWalk.rem_in, Go.IntWalk.wrap64_in]); rfl)); (try simp only [Act.put, List.setIfInBounds_toArray, List.set_cons_succ, List.set_cons_zero])))
          (refine VD_vag (PtV (partsE y.2)) (PtR (partsE y.2)) (fun p w w' h hx => h.ext hx) (fun us w' hx hf => ⟨rfl, ?_⟩) ?_; (unfold gives; simp [go_sem, execOp]; exact vag_parts (hpa _ (hSk.ext hx))))
          (repeat (apply VD_der; (case h => (intro us w' hx hf; obtain ⟨x, rfl⟩ := hx.out; refine ⟨rfl, ?_⟩; simp [go_sem, execOp, *]; (try simp (disch := omega) only [Go.IntWalk.i64_in, Go.IntWalk.rem_in, Go.IntWalk.wrap64_in]); rfl)); (try simp only [Act.put, List.setIfInBounds_toArray, List.set_cons_succ, List.set_cons_zero])))
          (refine VD_nil ?_; intro us w' hx hf; obtain ⟨x, rfl⟩ := hx.out; (try simp only [Act.put, List.setIfInBounds_toArray, List.set_cons_succ, List.set_cons_zero, wpList_none]); (try simp only [List.mem_cons, List.not_mem_nil, or_false, forall_eq_or_imp, forall_eq, List.nil_append, List.cons_append, List.mem_append, false_or, true_and, and_true] at hf); (try simp only [Nat.reduceAdd, Nat.zero_add] at hf); (try simp only [Nat.reduceAdd, Nat.zero_add]))
          have hps : ∀ z, partsE y.2 = some z → Sl (w3.ext x) (us 8 0).1 (us 8 3).2 z.1 ∧ (us 8 3).2 ≤ (us 8 0).2 ∧ Sl (w3.ext x) (us 8 1).1 (us 8 4).2 z.2 ∧ (us 8 4).2 ≤ (us 8 1).2 := hf
          simp only [PtV]
          obtain ⟨p1, e_p1⟩ : ∃ a, (us 8 0).1 = a := ⟨_, rfl⟩
          obtain ⟨k1, e_k1⟩ : ∃ a, (us 8 0).2 = a := ⟨_, rfl⟩
          obtain ⟨p2, e_p2⟩ : ∃ a, (us 8 1).1 = a := ⟨_, rfl⟩
          obtain ⟨k2, e_k2⟩ : ∃ a, (us 8 1).2 = a := ⟨_, rfl⟩
          obtain ⟨n1, e_n1⟩ : ∃ a, (us 8 3).2 = a := ⟨_, rfl⟩
          obtain ⟨n2, e_n2⟩ : ∃ a, (us 8 4).2 = a := ⟨_, rfl⟩
          rw [e_p1, e_k1, e_p2, e_k2, e_n1, e_n2] at hps
          rw [e_p1, e_k1, e_p2, e_k2, e_n1, e_n2]
          have hxa : Ext w3 (w3.ext x) := Ext.of_ext _ _
          have hxc := (hxa.cell (p := ⟨xb, xo, none⟩) hxlt).trans hxc
          have hG4 := hG3.extB hxa
          have hP4 := hP3.extB hxa
          have hE4 := hE3.trans hxa
          have hO4 := hO3.ext hxa
          have hxlt := Nat.lt_of_lt_of_le hxlt hxa.size
          clear f13 hf hc0 hc1 hSk hpa e_p1 e_k1 e_p2 e_k2 e_n1 e_n2
          generalize w3.ext x = w4 at *
          haveI : BlkLt xb w4 := ⟨hxlt⟩
          haveI := hP4.blt
          haveI := hG4.blt
          clear hG3 hP3 hE3 hO3 hxa
          cases q5 : partsE y.2 with
          | none =>
            have er := Lib.hid (show r = (zeroP, 3) by rw [hat.out, q5])
            clear q5 hps
            go_wp2_with (first
              | (refine wpList_store_arr (RP16) rfl _ _ rfl (w.heap.size) (0) rfl ([.int .i64 0, .int .i64 0, .int .i64 0, .int .i64 0, .int .i64 0, .int .i64 0, .int .u32 0, .int .u32 0, .int .u32 0, .int .u64 0, .int .u64 0, .int .u64 0, .int .u64 0, .slice none 0 0, .slice none 0 0, .bool false]) rfl (32) _ ((hP4.extB (by repeat (first | (with_reducible first | exact Ext.refl _ | assumption | apply Ext.alloc | apply Ext.ext | apply Ext.drew | refine Ext.setCell ?_ ?_ _) | (focus (simp [go_sem]; done)))))) (rfl) (by simp) ((by simp; repeat' (first | rfl | constructor))) ?_; intro V hV hMV)
              | fail)
            refine bodyPost_ret (results_arr_tmp Tryz.results15 (RP16) _ _ (w.heap.size) (0) ([.int .i64 0, .int .i64 0, .int .i64 0, .int .i64 0, .int .i64 0, .int .i64 0, .int .u32 0, .int .u32 0, .int .u32 0, .int .u64 0, .int .u64 0, .int .u64 0, .int .u64 0, .slice none 0 0, .slice none 0 0, .bool false]) rfl (hV.rd) (rfl) (.int .i64 3) rfl) rfl ?_
            rw [er.out]
            exact PktE.err _ _ _ (Below.trans (hE4.trans (by repeat (first | (with_reducible first | exact Ext.refl _ | assumption | apply Ext.alloc | apply Ext.ext | apply Ext.drew | refine Ext.setCell ?_ ?_ _) | (focus (simp [go_sem]; done))))) (hMV.below (Nat.le_refl _) (Below.size (hE4.trans (by repeat (first | (with_reducible first | exact Ext.refl _ | assumption | apply Ext.alloc | apply Ext.ext | apply Ext.drew | refine Ext.setCell ?_ ?_ _) | (focus (simp [go_sem]; done))))))))
          | some z =>
            obtain ⟨v1, m1, v2, m2⟩ := hps z q5
            have hzl := partsE_sealed q5
            replace hat := Lib.hid (show r = _ by rw [hat.out, q5])
            clear q5 hps
            have hSw := hS.ext hE4
            obtain ⟨sb, so, rfl, hsb, -⟩ := hSw.at 0 (by omega)
            have h48 := sl_at hSw hcb (i := 48) (by omega)
            have hpl := fun W H => rxplaces_any (some ⟨sb, so + 48, none⟩) (nb - 48) (cb - 48) (b.drop 48) W H (by omega) (by omega)
            rw [hdF] at hpl
            have j1 : (48 : Int) ≤ (nb : Int) := by omega
            have j2 : (48 : Int) ≤ (cb : Int) := by omega
            have j3 : ¬ cb = 48 := by omega
            go_wp2_with fail
            (with_reducible refine (hpl _ h48).mono ?_)
            rintro e w5 ⟨bp, dp, rfl, hOp, hxp⟩
            have hOp : OwnJ w5 w4.heap.size bp L.length dp (plcL L) := hOp
            have hxc := (hxp.cell (p := ⟨xb, xo, none⟩) hxlt).trans hxc
            have hG5 := hG4.extB hxp
            have hP5 := hP4.extB hxp
            have hE5 := hE4.trans hxp
            have hO5 := hO4.ext hxp
            have v1 := v1.ext hxp
            have v2 := v2.ext hxp
            have hxlt := Nat.lt_of_lt_of_le hxlt hxp.size
            haveI : BlkLt xb w5 := ⟨hxlt⟩
            obtain ⟨yb, yo, rfl, hyb, hyc⟩ := hOp.rd.at i (by rw [List.length_map, plcL_length]; exact hi)
            rw [List.getElem_map, plcL_at hi] at hyc
            haveI := hyb
            have hk5 := hk.ext hE5
            have hS5 := hS.ext hE5
            obtain ⟨PL, hPL⟩ : ∃ PL, totN (L.take i) = PL := ⟨_, rfl⟩
            rw [hPL] at hyc
            obtain ⟨Q, hQ⟩ : ∃ Q, nb - y.2.length - 4 = Q := ⟨_, rfl⟩
            have hPQ : 48 + PL = Q := by omega
            have hQi : (48 : Int) + (PL : Int) = (Q : Int) := by omega
            have hSQ := hS5.take Q (by omega)
            have hQc : Q ≤ cb := by omega
            have hQ0 : (0 : Int) ≤ (Q : Int) := by omega
            have hQb : Q ≤ 1280 := by omega
            have hQ1 : (Q : Int) ≤ (cb : Int) := by omega
            have hat := hat.out
            rw [lb, hQ] at hat
            have hop := fun b' c' W H1 H2 H3 => ropen_any ak b' p2 32 ck 2 c' n2 k2 ky [b.take Q, z.1] z.2 W H1 hck H2 (by omega) H3 m2 (by have := v2.len; omega)
            have hAl := Lib.hid (show (openE ky [b.take Q, z.1] z.2).1.length ≤ 1280 from Nat.le_trans openE_len (Nat.le_trans hzl y1280))
            generalize openE ky [b.take Q, z.1] z.2 = A at *
            replace hat := Lib.hid hat
            clear hQ lb hSw h48 hpl hOp hPL hPQ hG4 hP4 hE4 hO4 hsz htk hyok hsp hzl hxp j1 j2 j3
            go_wp2_with fail
            (with_reducible refine (hop _ _ _ (hk5.ext (Ext.of_alloc _ _)) (bsc2 hSQ hQc v1 m1 _) (v2.ext (Ext.of_alloc _ _))).mono ?_)
            rintro e W7 ⟨p7, k7, rfl, hS7, hc7, hx7⟩
            have hx7 : Ext w5 W7 := (Ext.of_alloc _ _).trans hx7
            have hxc := (hx7.cell (p := ⟨xb, xo, none⟩) hxlt).trans hxc
            have hE7 := hE5.trans hx7
            have hP7 := hP5.extB hx7
            have hG7 := hG5.extB hx7
            have hO7 := hO5.ext hx7
            have hxlt := Nat.lt_of_lt_of_le hxlt hx7.size
            clear v1 v2 hSQ hk5 hS5 hop hQi hQ0 hQ1 hQc hyc hE5 hP5 hG5 hO5 hx7
            haveI := hP7.blt
            by_cases q8 : A.2 = 0
            · rw [q8]
              have hdf := fun W H => rxdecode_any p7 A.1.length k7 A.1 W H hc7 (Nat.le_trans hAl.out (by decide))
              replace hat := Lib.hid (show r = _ by rw [hat.out, if_neg (by simpa using q8)])
              clear q8
              generalize A.1 = D at *
              go_wp2_with fail
              (with_reducible refine (hdf W7 hS7).mono ?_)
              rintro e w8 ⟨b8, d8, rfl, hO8, hx8⟩
              have hxc := (hx8.cell (p := ⟨xb, xo, none⟩) hxlt).trans hxc
              have hxlt := Nat.lt_of_lt_of_le hxlt hx8.size
              haveI : BlkLt xb w8 := ⟨hxlt⟩
              have hE8 := hE7.trans hx8
              have hP8 := hP7.extB hx8
              have hG8 := hG7.extB hx8
              have hO7 := hO7.ext hx8
              clear hE7 hP7 hG7 hS7 hx8 hdf
              haveI := hP8.blt
              haveI := hG8.blt
              have g13 : w8.cell? ⟨w1.heap.size, 13, none⟩ = some (.slice (some ⟨g0, o0, none⟩) L.length d1) := hG8.cell? 13 rfl
              by_cases q9 : (decF D).2 = 0
              · rw [q9]
                have er := Lib.hid (show r = (⟨H, L.take i, (decF D).1, true⟩, 0) by rw [hat.out, if_neg (by simpa using q9)])
                clear q9 hat
                generalize (decF D).1 = S at *
                have l1 : (i : Int) ≤ (d1 : Int) := by omega
                have hil : i ≤ L.length := by omega
                have hGl : Rd w8 (some ⟨w1.heap.size, 0, none⟩) [.int .i64 H.leap, .int .i64 H.ver, .int .i64 H.mode, .int .i64 H.strat, .int .i64 H.poll, .int .i64 H.prec, .int .u32 (n32 H.rd), .int .u32 (n32 H.rp), .int .u32 (n32 H.id), .int .u64 (n64 H.ref), .int .u64 (n64 H.org), .int .u64 (n64 H.rcv), .int .u64 (n64 H.tx)] := Rd.left (vs := [.int .i64 H.leap, .int .i64 H.ver, .int .i64 H.mode, .int .i64 H.strat, .int .i64 H.poll, .int .i64 H.prec, .int .u32 (n32 H.rd), .int .u32 (n32 H.rp), .int .u32 (n32 H.id), .int .u64 (n64 H.ref), .int .u64 (n64 H.org), .int .u64 (n64 H.rcv), .int .u64 (n64 H.tx)]) (us := [.slice (some ⟨g0, o0, none⟩) L.length d1, .slice none 0 0, .bool false]) hG8.rd
                clear q4 iq hi hi1 hy
                go_wp2_with fail
                refine wp_region_vague 10 [[], [0], [], [2], [], [4], [4, 5], [2, 3, 4, 5, 6], [], [0, 1, 2, 3, 4, 5, 6, 7, 8], [0, 1, 2, 3, 4, 5, 6, 7, 8, 9], [0, 1, 2, 3, 4, 5, 6, 7, 8, 9, 10]] (by kernel_rfl) (by kernel_rfl) (by kernel_rfl) (by kernel_rfl) ?_; simp only [List.take_succ_cons, List.take_zero, List.drop_succ_cons, List.drop_zero, List.take_nil, List.drop_nil]
                (repeat (apply VD_der; (case h => (intro us w' hx hf; obtain ⟨x, rfl⟩ := hx.out; refine ⟨rfl, ?_⟩; simp [go_sem, execOp, *]; (try simp (disch := omega) only [Go.IntWalk.i64_in, Go.IntWalk.rem_in, Go.IntWalk.wrap64_in]); rfl)); (try simp only [Act.put, List.setIfInBounds_toArray, List.set_cons_succ, List.set_cons_zero])))
                (refine VD_load_arr (RH13) _ rfl (fun _ => rfl) (w1.heap.size) (0) (fun _ => by simp [go_sem]) ([.int .i64 H.leap, .int .i64 H.ver, .int .i64 H.mode, .int .i64 H.strat, .int .i64 H.poll, .int .i64 H.prec, .int .u32 (n32 H.rd), .int .u32 (n32 H.rp), .int .u32 (n32 H.id), .int .u64 (n64 H.ref), .int .u64 (n64 H.org), .int .u64 (n64 H.rcv), .int .u64 (n64 H.tx)]) (hGl) (rfl) ?_)
                (repeat (apply VD_der; (case h => (intro us w' hx hf; obtain ⟨x, rfl⟩ := hx.out; refine ⟨rfl, ?_⟩; simp [go_sem, execOp, *]; (try simp (disch := omega) only [Go.IntWalk.i64_in, Go.IntWalk.rem_in, Go.IntWalk.wrap64_in]); rfl)); (try simp only [Act.put, List.setIfInBounds_toArray, List.set_cons_succ, List.set_cons_zero])))
                (refine VD_nil ?_; intro us w' hx hf; obtain ⟨x, rfl⟩ := hx.out; (try simp only [Act.put, List.setIfInBounds_toArray, List.set_cons_succ, List.set_cons_zero, wpList_none]); (try simp only [List.mem_cons, List.not_mem_nil, or_false, forall_eq_or_imp, forall_eq, List.nil_append, List.cons_append, List.mem_append, false_or, true_and, and_true] at hf); (try simp only [Nat.reduceAdd, Nat.zero_add] at hf); (try simp only [Nat.reduceAdd, Nat.zero_add]))
                have hx9 : Ext w8 (w8.ext x) := Ext.of_ext _ _
                have hE9 := hE8.trans hx9
                have hP9 := hP8.extB hx9
                have hO7 := hO7.ext hx9
                have hO8 := hO8.ext hx9
                generalize w8.ext x = W9 at *
                haveI := hP9.blt
                clear hf hx9 hE8 hP8 hG8 hGl g13
                go_wp2_with (first
                  | (refine wpList_store_arr (RP16) rfl _ _ rfl (w.heap.size) (0) rfl ([.int .i64 H.leap, .int .i64 H.ver, .int .i64 H.mode, .int .i64 H.strat, .int .i64 H.poll, .int .i64 H.prec, .int .u32 (n32 H.rd), .int .u32 (n32 H.rp), .int .u32 (n32 H.id), .int .u64 (n64 H.ref), .int .u64 (n64 H.org), .int .u64 (n64 H.rcv), .int .u64 (n64 H.tx), .slice (some ⟨g0, o0, none⟩) i d1, .slice b8 S.length d8, .bool true]) rfl (32) _ (hP9) (rfl) (by simp) ((by simp; repeat' (first | rfl | constructor))) ?_; intro V hV hMV)
                  | fail)
                refine bodyPost_ret (results_arr_tmp Tryz.results15 (RP16) _ _ (w.heap.size) (0) ([.int .i64 H.leap, .int .i64 H.ver, .int .i64 H.mode, .int .i64 H.strat, .int .i64 H.poll, .int .i64 H.prec, .int .u32 (n32 H.rd), .int .u32 (n32 H.rp), .int .u32 (n32 H.id), .int .u64 (n64 H.ref), .int .u64 (n64 H.org), .int .u64 (n64 H.rcv), .int .u64 (n64 H.tx), .slice (some ⟨g0, o0, none⟩) i d1, .slice b8 S.length d8, .bool true]) rfl (hV.rd) (rfl) (.int .i64 0) rfl) rfl ?_
                rw [er.out]
                exact ⟨_, _, _, _, _, _, rfl, (hO7.mut hP9 (by decide) (by simp) hMV).ib.1.take i hil, by omega, (hO8.mut hP9 (by decide) (by simp) hMV).ib.1, (hO8.mut hP9 (by decide) (by simp) hMV).ib.2, Below.trans hE9 (hMV.below (Nat.le_refl _) hE9.size)⟩
              · have er := Lib.hid (show r = (zeroP, (decF D).2) by rw [hat.out, if_pos q9])
                have i9 := ne0 q9
                generalize (decF D).2 = v9 at *
                generalize (decF D).1 = S at *
                clear q9 hat
                go_wp2_with (first
                  | (refine wpList_store_arr (RP16) rfl _ _ rfl (w.heap.size) (0) rfl ([.int .i64 0, .int .i64 0, .int .i64 0, .int .i64 0, .int .i64 0, .int .i64 0, .int .u32 0, .int .u32 0, .int .u32 0, .int .u64 0, .int .u64 0, .int .u64 0, .int .u64 0, .slice none 0 0, .slice none 0 0, .bool false]) rfl (32) _ ((hP8.extB (by repeat (first | (with_reducible first | exact Ext.refl _ | assumption | apply Ext.alloc | apply Ext.ext | apply Ext.drew | refine Ext.setCell ?_ ?_ _) | (focus (simp [go_sem]; done)))))) (rfl) (by simp) ((by simp; repeat' (first | rfl | constructor))) ?_; intro V hV hMV)
                  | fail)
                refine bodyPost_ret (results_arr_tmp Tryz.results15 (RP16) _ _ (w.heap.size) (0) ([.int .i64 0, .int .i64 0, .int .i64 0, .int .i64 0, .int .i64 0, .int .i64 0, .int .u32 0, .int .u32 0, .int .u32 0, .int .u64 0, .int .u64 0, .int .u64 0, .int .u64 0, .slice none 0 0, .slice none 0 0, .bool false]) rfl (hV.rd) (rfl) (.int .i64 v9) rfl) rfl ?_
                rw [er.out]
                exact PktE.err _ _ _ (Below.trans (hE8.trans (by repeat (first | (with_reducible first | exact Ext.refl _ | assumption | apply Ext.alloc | apply Ext.ext | apply Ext.drew | refine Ext.setCell ?_ ?_ _) | (focus (simp [go_sem]; done))))) (hMV.below (Nat.le_refl _) (Below.size (hE8.trans (by repeat (first | (with_reducible first | exact Ext.refl _ | assumption | apply Ext.alloc | apply Ext.ext | apply Ext.drew | refine Ext.setCell ?_ ?_ _) | (focus (simp [go_sem]; done))))))))
            · have er := Lib.hid (show r = (zeroP, 6) by rw [hat.out, if_pos q8])
              have i8 := ne0 q8
              generalize A.2 = v8 at *
              generalize A.1 = D at *
              clear q8 hat
              go_wp2_with (first
                | (refine wpList_store_arr (RP16) rfl _ _ rfl (w.heap.size) (0) rfl ([.int .i64 0, .int .i64 0, .int .i64 0, .int .i64 0, .int .i64 0, .int .i64 0, .int .u32 0, .int .u32 0, .int .u32 0, .int .u64 0, .int .u64 0, .int .u64 0, .int .u64 0, .slice none 0 0, .slice none 0 0, .bool false]) rfl (32) _ ((hP7.extB (by repeat (first | (with_reducible first | exact Ext.refl _ | assumption | apply Ext.alloc | apply Ext.ext | apply Ext.drew | refine Ext.setCell ?_ ?_ _) | (focus (simp [go_sem]; done)))))) (rfl) (by simp) ((by simp; repeat' (first | rfl | constructor))) ?_; intro V hV hMV)
                | fail)
              refine bodyPost_ret (results_arr_tmp Tryz.results15 (RP16) _ _ (w.heap.size) (0) ([.int .i64 0, .int .i64 0, .int .i64 0, .int .i64 0, .int .i64 0, .int .i64 0, .int .u32 0, .int .u32 0, .int .u32 0, .int .u64 0, .int .u64 0, .int .u64 0, .int .u64 0, .slice none 0 0, .slice none 0 0, .bool false]) rfl (hV.rd) (rfl) (.int .i64 6) rfl) rfl ?_
              rw [er.out]
              exact PktE.err _ _ _ (Below.trans (hE7.trans (by repeat (first | (with_reducible first | exact Ext.refl _ | assumption | apply Ext.alloc | apply Ext.ext | apply Ext.drew | refine Ext.setCell ?_ ?_ _) | (focus (simp [go_sem]; done))))) (hMV.below (Nat.le_refl _) (Below.size (hE7.trans (by repeat (first | (with_reducible first | exact Ext.refl _ | assumption | apply Ext.alloc | apply Ext.ext | apply Ext.drew | refine Ext.setCell ?_ ?_ _) | (focus (simp [go_sem]; done))))))))
        · rw [if_pos (by omega)] at hat
          have er := Lib.hid hat
          have iq : ((i : Int) != (L.length : Int) - 1) = true := by rw [bne_iff_ne]; omega
          clear hat
          go_wp2_with fail
          refine wp_region_vague 8 [[], [0], [0, 1], [], [3], [3, 4], [3, 4, 5], [0, 1, 2, 3, 4, 5, 6]] (by kernel_rfl) (by kernel_rfl) (by kernel_rfl) (by kernel_rfl) ?_; simp only [List.take_succ_cons, List.take_zero, List.drop_succ_cons, List.drop_zero, List.take_nil, List.drop_nil]
          (repeat (apply VD_der; (case h => (intro us w' hx hf; obtain ⟨x, rfl⟩ := hx.out; refine ⟨rfl, ?_⟩; simp [go_sem, execOp, *]; (try simp (disch := omega) only [Go.IntWalk.i64_in, Go.IntWalk.rem_in, Go.IntWalk.wrap64_in]); rfl)); (try simp only [Act.put, List.setIfInBounds_toArray, List.set_cons_succ, List.set_cons_zero])))
          (refine VD_nil ?_; intro us w' hx hf; obtain ⟨x, rfl⟩ := hx.out; (try simp only [Act.put, List.setIfInBounds_toArray, List.set_cons_succ, List.set_cons_zero, wpList_none]); (try simp only [List.mem_cons, List.not_mem_nil, or_false, forall_eq_or_imp, forall_eq, List.nil_append, List.cons_append, List.mem_append, false_or, true_and, and_true] at hf); (try simp only [Nat.reduceAdd, Nat.zero_add] at hf); (try simp only [Nat.reduceAdd, Nat.zero_add]))
          go_wp2_with (first
            | (refine wpList_store_arr (RP16) rfl _ _ rfl (w.heap.size) (0) rfl ([.int .i64 0, .int .i64 0, .int .i64 0, .int .i64 0, .int .i64 0, .int .i64 0, .int .u32 0, .int .u32 0, .int .u32 0, .int .u64 0, .int .u64 0, .int .u64 0, .int .u64 0, .slice none 0 0, .slice none 0 0, .bool false]) rfl (32) _ ((hP3.extB (by repeat (first | (with_reducible first | exact Ext.refl _ | assumption | apply Ext.alloc | apply Ext.ext | apply Ext.drew | refine Ext.setCell ?_ ?_ _) | (focus (simp [go_sem]; done)))))) (rfl) (by simp) ((by simp; repeat' (first | rfl | constructor))) ?_; intro V hV hMV)
            | fail)
          refine bodyPost_ret (results_arr_tmp Tryz.results15 (RP16) _ _ (w.heap.size) (0) ([.int .i64 0, .int .i64 0, .int .i64 0, .int .i64 0, .int .i64 0, .int .i64 0, .int .u32 0, .int .u32 0, .int .u32 0, .int .u64 0, .int .u64 0, .int .u64 0, .int .u64 0, .slice none 0 0, .slice none 0 0, .bool false]) rfl (hV.rd) (rfl) (.int .i64 3) rfl) rfl ?_
          rw [er.out]
          exact PktE.err _ _ _ (Below.trans (hE3.trans (by repeat (first | (with_reducible first | exact Ext.refl _ | assumption | apply Ext.alloc | apply Ext.ext | apply Ext.drew | refine Ext.setCell ?_ ?_ _) | (focus (simp [go_sem]; done))))) (hMV.below (Nat.le_refl _) (Below.size (hE3.trans (by repeat (first | (with_reducible first | exact Ext.refl _ | assumption | apply Ext.alloc | apply Ext.ext | apply Ext.drew | refine Ext.setCell ?_ ?_ _) | (focus (simp [go_sem]; done))))))))
    · have er := Lib.hid (show r = (zeroP, (readE b).2) by rw [← hr.out]; exact openP_read q1' q2)
      have i2 := ne0 q2
      generalize (readE b).2 = v at *
      generalize (readE b).1.plain = L at *
      generalize (readE b).1.h = H at *
      clear q2
      go_wp2_with (first
        | (refine wpList_alloc_store (RP16) rfl rfl _ _ rfl rfl rfl rfl (by simp [Act.put]) ([.int .i64 H.leap, .int .i64 H.ver, .int .i64 H.mode, .int .i64 H.strat, .int .i64 H.poll, .int .i64 H.prec, .int .u32 (n32 H.rd), .int .u32 (n32 H.rp), .int .u32 (n32 H.id), .int .u64 (n64 H.ref), .int .u64 (n64 H.org), .int .u64 (n64 H.rcv), .int .u64 (n64 H.tx), .slice b1 L.length d1, .slice none 0 0, .bool false]) rfl (by simp) (rfl) ((by simp; repeat' (first | rfl | constructor))) ?_; intro x hz _)
        | (refine wpList_store_arr (RP16) rfl _ _ rfl (w.heap.size) (0) rfl ([.int .i64 0, .int .i64 0, .int .i64 0, .int .i64 0, .int .i64 0, .int .i64 0, .int .u32 0, .int .u32 0, .int .u32 0, .int .u64 0, .int .u64 0, .int .u64 0, .int .u64 0, .slice none 0 0, .slice none 0 0, .bool false]) rfl (32) _ ((hP1.extB (by repeat (first | (with_reducible first | exact Ext.refl _ | assumption | apply Ext.alloc | apply Ext.ext | apply Ext.drew | refine Ext.setCell ?_ ?_ _) | (focus (simp [go_sem]; done)))))) (rfl) (by simp) ((by simp; repeat' (first | rfl | constructor))) ?_; intro V hV hMV)
        | fail)
      refine bodyPost_ret (results_arr_tmp Tryz.results15 (RP16) _ _ (w.heap.size) (0) ([.int .i64 0, .int .i64 0, .int .i64 0, .int .i64 0, .int .i64 0, .int .i64 0, .int .u32 0, .int .u32 0, .int .u32 0, .int .u64 0, .int .u64 0, .int .u64 0, .int .u64 0, .slice none 0 0, .slice none 0 0, .bool false]) rfl (hV.rd) (rfl) (.int .i64 v) rfl) rfl ?_
      rw [er.out]
      exact PktE.err _ _ _ (Below.trans (hE1.trans (by repeat (first | (with_reducible first | exact Ext.refl _ | assumption | apply Ext.alloc | apply Ext.ext | apply Ext.drew | refine Ext.setCell ?_ ?_ _) | (focus (simp [go_sem]; done))))) (hMV.below (Nat.le_refl _) (Below.size (hE1.trans (by repeat (first | (with_reducible first | exact Ext.refl _ | assumption | apply Ext.alloc | apply Ext.ext | apply Ext.drew | refine Ext.setCell ?_ ?_ _) | (focus (simp [go_sem]; done))))))))
  · have er := Lib.hid (show r = (zeroP, 5) by rw [← hr.out]; exact openP_key (by omega))
    have i1 : ((nk : Int) != 32) = true := by rw [bne_iff_ne]; omega
    clear lk lb q1
    go_enter Tryz.func15, Tryz.ntmps15
    go_wp2_with (first
      | (refine wpList_store_arr (RP16) rfl _ _ rfl (w.heap.size) (0) rfl ([.int .i64 0, .int .i64 0, .int .i64 0, .int .i64 0, .int .i64 0, .int .i64 0, .int .u32 0, .int .u32 0, .int .u32 0, .int .u64 0, .int .u64 0, .int .u64 0, .int .u64 0, .slice none 0 0, .slice none 0 0, .bool false]) rfl (32) _ ((Blk.new w #[.int .i64 0, .int .i64 0, .int .i64 0, .int .i64 0, .int .i64 0, .int .i64 0, .int .u32 0, .int .u32 0, .int .u32 0, .int .u64 0, .int .u64 0, .int .u64 0, .int .u64 0, .slice none 0 0, .slice none 0 0, .bool false] 32)) (rfl) (by simp) ((by simp; repeat' (first | rfl | constructor))) ?_; intro V hV hMV)
      | fail)
    refine bodyPost_ret (results_arr_tmp Tryz.results15 (RP16) _ _ (w.heap.size) (0) ([.int .i64 0, .int .i64 0, .int .i64 0, .int .i64 0, .int .i64 0, .int .i64 0, .int .u32 0, .int .u32 0, .int .u32 0, .int .u64 0, .int .u64 0, .int .u64 0, .int .u64 0, .slice none 0 0, .slice none 0 0, .bool false]) rfl (hV.rd) (rfl) (.int .i64 5) rfl) rfl ?_
    rw [er.out]
    exact PktE.err _ _ _ (Below.trans (Ext.of_alloc _ _) (hMV.below (Nat.le_refl _) (by simp)))
end Go.Proofs.YtdmifbfgeeldnaaGreat

/- Open undoes Protect: plain functions. No program. -/
namespace Go.Pkt
open Go.Oct Go.Aes Go.Sec
theorem padL_4 (l : List UInt8) : padL l 4 = l ++ List.replicate (pad4 l.length - l.length) 0 := by
  unfold padL padN pad4
  rw [if_pos (by omega)]
  congr 2
  omega
theorem padL_4_length (l : List UInt8) : (padL l 4).length = pad4 l.length := by
  rw [padL_4, List.length_append, List.length_replicate]; unfold pad4; omega
theorem guardB_len (n s : List UInt8) : (guardB n s).length = 4 + pad4 n.length + pad4 s.length := by
  simp only [guardB, List.length_append, putL_length, padL_4_length]; omega
theorem partsE_guardB {n s : List UInt8} (h1 : 16 ≤ n.length) (h2 : n.length ≤ 32) (h3 : s.length < 65536) : partsE (guardB n s) = some (n, s) := by
  have e0 : getN ((guardB n s).take 2) = n.length := by
    unfold guardB; rw [take_app _ _ _ (putL_length _ _), getN_put2 _ (by omega)]
  have e1 : getN (((guardB n s).drop 2).take 2) = s.length := by
    unfold guardB; rw [drop_app _ _ _ (putL_length _ _), take_app _ _ _ (putL_length _ _), getN_put2 _ (by omega)]
  have e2 : (guardB n s).drop 4 = padL n 4 ++ padL s 4 := by
    unfold guardB; rw [show (4 : Nat) = 2 + 2 from rfl, drop_more _ _ 2 2 (putL_length _ _), drop_app _ _ _ (putL_length _ _)]
  have e3 : ((guardB n s).drop 4).take n.length = n := by
    rw [e2, padL_4, List.append_assoc, take_app _ _ _ rfl]
  have e4 : ((guardB n s).drop (4 + pad4 n.length)).take s.length = s := by
    rw [← List.drop_drop, e2, drop_app _ _ _ (padL_4_length n), padL_4, take_app _ _ _ rfl]
  unfold partsE
  simp only [e0, e1, e3, e4]
  rw [if_pos ⟨by rw [guardB_len]; omega, ⟨h1, h2⟩, guardB_len n s, trivial⟩]
theorem padF_guard {n s : List UInt8} (h1 : 16 ≤ n.length) : padF (1028, guardB n s) = (1028, guardB n s) := by
  unfold padF
  have h := guardB_len n s
  have : szN (guardB n s).length - 4 - (guardB n s).length = 0 := by rw [h]; unfold szN pad4; omega
  rw [this]; simp
theorem ixs_app_none {k : Int} {L : List Fld} (M : List Fld) (h : ∀ f ∈ L, f.1 ≠ k) : ∀ j, j ≤ L.length → ixs k (L ++ M) j = [] := by
  intro j
  induction j with
  | zero => intro _; rfl
  | succ j ih =>
    intro hj
    rw [ixs_no, ih (by omega)]
    rw [List.getD_eq_getElem?_getD, List.getElem?_append_left (by omega), List.getElem?_eq_getElem (by omega)]
    exact h _ (List.getElem_mem _)
theorem ixs_none {k : Int} {L : List Fld} (h : ∀ f ∈ L, f.1 ≠ k) : ixs k L L.length = [] := by
  have := ixs_app_none [] h L.length (Nat.le_refl _)
  rwa [List.append_nil] at this
theorem encF_of {L : List Fld} (h : ∀ f ∈ L, (0 ≤ f.1 ∧ f.1 ≤ 65535) ∧ szN f.2.length ≤ 1232) (h2 : L.length ≤ 24) (h3 : totN L ≤ 1232) : encF L = (bytesF L, 0) := by
  have hb : badE L = 0 := by
    clear h2 h3
    induction L with
    | nil => rfl
    | cons f L ih =>
      obtain ⟨⟨a, b⟩, c⟩ := h f (List.mem_cons_self ..)
      have : (sizE f).2 = 0 := by unfold sizE; rw [if_neg (by omega), if_neg (by omega)]
      rw [badE, if_neg (by simpa using this)]
      exact ih fun g hg => h g (List.mem_cons_of_mem _ hg)
  unfold encF
  rw [hb, if_neg (by simp), if_neg (by omega), if_neg (by omega)]
structure Fits (p : Pkt) (nn : Nat) : Prop where
  h : okH p.h
  f1 : ∀ f ∈ p.plain, (0 ≤ f.1 ∧ f.1 ≤ 65535) ∧ szN f.2.length ≤ 1232
  f2 : ∀ f ∈ p.secret, (0 ≤ f.1 ∧ f.1 ≤ 65535) ∧ szN f.2.length ≤ 1232
  a : ∀ f ∈ p.plain, f.1 ≠ 1028
  n1 : p.plain.length < 24
  n2 : p.secret.length ≤ 24
  n0 : 16 ≤ nn ∧ nn ≤ 32
  t : 48 + totN p.plain + (8 + pad4 nn + pad4 (16 + totN p.secret)) ≤ 1280
  t2 : totN p.secret ≤ 1232
def sealB (ky : List UInt8) (p : Pkt) (nonce : List UInt8) : List UInt8 := (sealE ky [hdrB p.h ++ bytesF p.plain, nonce] (bytesF p.secret)).1
theorem fits_open {p : Pkt} {nn : Nat} (h : Fits p nn) : encH p.h = (hdrB p.h, 0) ∧ encF p.plain = (bytesF p.plain, 0) ∧ encF p.secret = (bytesF p.secret, 0) ∧ openB p.h p.plain = (hdrB p.h ++ bytesF p.plain, 0) := by
  have h1 : encH p.h = (hdrB p.h, 0) := if_pos h.h
  have h2 := encF_of h.f1 (by have := h.n1; omega) (by have := h.t; omega)
  have h3 := encF_of h.f2 h.n2 h.t2
  refine ⟨h1, h2, h3, ?_⟩
  unfold openB
  rw [h1, h2, if_neg (by simp), if_neg (by simp)]
theorem checkA2 {ky a b : List UInt8} (h : ky.length = 32) (ha : a.length ≤ 65519) (hb : b.length ≤ 65519) : checkA ky [a, b] = 0 := by
  unfold checkA
  rw [if_neg (by omega), if_neg (by simp), if_neg (by unfold longA; simp; omega)]
theorem fits_len {p : Pkt} {nn : Nat} (h : Fits p nn) : (hdrB p.h ++ bytesF p.plain).length = 48 + totN p.plain := by rw [List.length_append, hdrB_length, bytesF_length]
theorem sealB_len {ky nonce : List UInt8} {p : Pkt} (hk : ky.length = 32) (h : Fits p nonce.length) : (sealB ky p nonce).length = 16 + totN p.secret := by
  have hl := fits_len h
  have ht := h.t
  have ht2 := h.t2
  have hn := h.n0
  unfold sealB
  rw [(seal2 hk (by omega) (by omega) (by rw [bytesF_length]; omega)).2, bytesF_length]
theorem protE_fits {ky nonce : List UInt8} {p : Pkt} (hk : ky.length = 32) (h : Fits p nonce.length) : protE ky p nonce = (hdrB p.h ++ bytesF p.plain ++ fldB (1028, guardB nonce (sealB ky p nonce)), 0) ∧
    (fldB (1028, guardB nonce (sealB ky p nonce))).length = 8 + pad4 nonce.length + pad4 (16 + totN p.secret) := by
  obtain ⟨e1, e2, e3, e4⟩ := fits_open h
  have hl := fits_len h
  have ht := h.t
  have hn := h.n0
  have hsl := sealB_len hk h
  have hgl := guardB_len nonce (sealB ky p nonce)
  rw [hsl] at hgl
  have hsz : szN (guardB nonce (sealB ky p nonce)).length = 8 + pad4 nonce.length + pad4 (16 + totN p.secret) := by rw [hgl]; unfold szN pad4; omega
  have hle : szN (guardB nonce (sealB ky p nonce)).length ≤ 1232 := by rw [hsz]; omega
  have htt : totN [((1028 : Int), guardB nonce (sealB ky p nonce))] = szN (guardB nonce (sealB ky p nonce)).length := by simp [totN]
  have hlast : lastF ky p nonce = (fldB (1028, guardB nonce (sealB ky p nonce)), 0) := by
    unfold lastF
    rw [e4, e3]
    show encF [(1028, guardB nonce (sealB ky p nonce))] = _
    rw [encF_of (by intro f hf; rw [List.mem_singleton.1 hf]; exact ⟨⟨by simp, by simp⟩, hle⟩) (by simp) (by rw [htt]; exact hle)]
    simp [bytesF]
  have hfl : (fldB (1028, guardB nonce (sealB ky p nonce))).length = 8 + pad4 nonce.length + pad4 (16 + totN p.secret) := by rw [fldB_length]; exact hsz
  refine ⟨?_, hfl⟩
  rw [protE_at hk (by omega) (by rw [e4]) (by rw [e3]), if_neg (by rw [ixs_none h.a]; simp), if_neg (by have := h.n1; omega), hlast, e4]
  show (if (0 : Int) ≠ 0 ∨ 1280 < (hdrB p.h ++ bytesF p.plain).length + (fldB (1028, guardB nonce (sealB ky p nonce))).length then _ else _) = _
  rw [if_neg (by rw [hl, hfl]; omega)]
theorem readE_fits {ky nonce : List UInt8} {p : Pkt} (hk : ky.length = 32) (h : Fits p nonce.length) :
    readE (hdrB p.h ++ bytesF p.plain ++ fldB (1028, guardB nonce (sealB ky p nonce))) = (⟨p.h, p.plain.map padF ++ [(1028, guardB nonce (sealB ky p nonce))], [], false⟩, 0) := by
  obtain ⟨_, hfl⟩ := protE_fits hk h
  have hn := h.n0
  have ht := h.t
  have hG : (fldB (1028, guardB nonce (sealB ky p nonce))).length = szN (guardB nonce (sealB ky p nonce)).length := fldB_length _
  have e : hdrB p.h ++ bytesF p.plain ++ fldB (1028, guardB nonce (sealB ky p nonce)) = hdrB p.h ++ bytesF (p.plain ++ [(1028, guardB nonce (sealB ky p nonce))]) := by
    rw [List.append_assoc, bytesF_snoc]
  have htot := totN_snoc p.plain (1028, guardB nonce (sealB ky p nonce))
  have hd : decH (hdrB p.h ++ bytesF (p.plain ++ [(1028, guardB nonce (sealB ky p nonce))])) = ((p.h, bytesF (p.plain ++ [(1028, guardB nonce (sealB ky p nonce))])), 0) :=
    decH_hdrB p.h h.h _ (by rw [bytesF_length, htot]; simp only; omega)
  have hf : decF (bytesF (p.plain ++ [(1028, guardB nonce (sealB ky p nonce))])) = (p.plain.map padF ++ [(1028, guardB nonce (sealB ky p nonce))], 0) := by
    unfold decF
    rw [if_neg (by rw [bytesF_length, htot]; simp only; omega), decR_bytesF _ 24 (by rw [List.length_append]; have := h.n1; simp; omega)]
    · rw [List.map_append]
      show (p.plain.map padF ++ [padF (1028, guardB nonce (sealB ky p nonce))], 0) = _
      rw [padF_guard hn.1]
    · intro f hf
      rcases List.mem_append.1 hf with h1 | h1
      · exact h.f1 f h1
      · rw [List.mem_singleton.1 h1]
        exact ⟨⟨by simp, by simp⟩, by show szN (guardB nonce (sealB ky p nonce)).length ≤ 1232; omega⟩
  rw [e]
  unfold readE
  rw [hd]
  simp only
  rw [hf]
  simp
theorem firstI_app {k : Int} {L : List Fld} {f : Fld} (h : ∀ g ∈ L, g.1 ≠ k) (hf : f.1 = k) : firstI k (L ++ [f]) = some L.length := by
  refine firstI_some (by simp) (ixs_app_none [f] h L.length (Nat.le_refl _)) ?_
  rw [List.getD_eq_getElem?_getD, List.getElem?_append_right (Nat.le_refl _)]
  simpa using hf
theorem openP_fits {ky nonce : List UInt8} {p : Pkt} (hk : ky.length = 32) (h : Fits p nonce.length) :
    openP ky (hdrB p.h ++ bytesF p.plain ++ fldB (1028, guardB nonce (sealB ky p nonce))) = (⟨p.h, p.plain.map padF, p.secret.map padF, true⟩, 0) := by
  obtain ⟨_, hfl⟩ := protE_fits hk h
  have hr := readE_fits hk h
  have hl := fits_len h
  have hn := h.n0
  have ht := h.t
  have ht2 := h.t2
  have hsl := sealB_len hk h
  have hgl := guardB_len nonce (sealB ky p nonce)
  have hmap : ∀ g ∈ p.plain.map padF, g.1 ≠ 1028 := by
    intro g hg
    obtain ⟨f, hf, rfl⟩ := List.mem_map.1 hg
    exact h.a f hf
  have hfi := firstI_app (f := (1028, guardB nonce (sealB ky p nonce))) hmap rfl
  have hgd : (p.plain.map padF ++ [((1028 : Int), guardB nonce (sealB ky p nonce))]).getD (p.plain.map padF).length (0, []) = (1028, guardB nonce (sealB ky p nonce)) := by
    rw [List.getD_eq_getElem?_getD, List.getElem?_append_right (Nat.le_refl _)]; simp
  have hpt := partsE_guardB (n := nonce) (s := sealB ky p nonce) hn.1 hn.2 (by rw [hsl]; omega)
  have htk : (hdrB p.h ++ bytesF p.plain ++ fldB (1028, guardB nonce (sealB ky p nonce))).take ((hdrB p.h ++ bytesF p.plain ++ fldB (1028, guardB nonce (sealB ky p nonce))).length - (guardB nonce (sealB ky p nonce)).length - 4) = hdrB p.h ++ bytesF p.plain := by
    refine take_app _ _ _ ?_
    have hall : (hdrB p.h ++ bytesF p.plain ++ fldB (1028, guardB nonce (sealB ky p nonce))).length = 48 + totN p.plain + (8 + pad4 nonce.length + pad4 (16 + totN p.secret)) := by rw [List.length_append, hl, hfl]
    rw [hl, hall, hgl, hsl]
    omega
  have hop : openE ky [hdrB p.h ++ bytesF p.plain, nonce] (sealB ky p nonce) = (bytesF p.secret, 0) := openE_seal (checkA2 hk (by omega) (by omega)) (by rw [bytesF_length]; omega)
  have hdf : decF (bytesF p.secret) = (p.secret.map padF, 0) := by
    unfold decF
    rw [if_neg (by rw [bytesF_length]; omega)]
    exact decR_bytesF _ 24 h.n2 h.f2
  unfold openP
  rw [if_neg (by omega), hr]
  simp only
  rw [if_neg (by simp), hfi]
  simp only
  rw [if_neg (by simp), hgd]
  simp only
  rw [hpt]
  simp only
  rw [htk, hop]
  simp only
  rw [if_neg (by simp), hdf]
  simp
end Go.Pkt

/- The walks of layer 18: total, Length. -/
namespace Go.Pkt
def badL (l : List Int) : Prop := ∃ x ∈ l, x < 0 ∨ 1280 < x
instance (l : List Int) : Decidable (badL l) := by unfold badL; infer_instance
def sumL (l : List Int) : Nat := (l.map fun x => szN x.toNat).sum
theorem sumL_snoc (l : List Int) (x : Int) : sumL (l ++ [x]) = sumL l + szN x.toNat := by simp [sumL]
def totE (l : List Int) : Int × Int := if badL l then (0, 4) else ((min (sumL l) 1281 : Nat), 0)
def allN (a b : Nat) : Nat := 72 + a + pad4 (16 + b)
def lenE (a b : List Int) : Int × Int :=
  if badL a ∨ badL b then (0, 4) else if 1232 < sumL a ∨ 1232 < sumL b ∨ 1280 < allN (sumL a) (sumL b) then (0, 2) else ((allN (sumL a) (sumL b) : Nat), 0)
theorem badL_at {l : List Int} {k : Nat} {x : Int} (h : l[k]? = some x) (hx : x < 0 ∨ 1280 < x) : badL l := ⟨x, List.mem_of_getElem? h, hx⟩
end Go.Pkt
namespace Go.Proofs.YtdmifbfgeeldnaaGreat
open Go.RowKit Go.Sec Go.Oct Go.Pkt Go.Aes BigFrame

set_option maxRecDepth 100000 in
set_option maxHeartbeats 2000000 in
theorem ptotal_any (a : Option Addr) (n c : Nat) (l : List Int) (w : World) (h : Rd w a (l.map i64v)) (hn : l.length = n) (hb : n ≤ 1000000) :
    Calls Tryz.prog 103 #[.slice a n c] w fun e w' => e = .returned (.tuple #[.int .i64 (totE l).1, .int .i64 (totE l).2]) ∧ Ext w w' := by
  obtain ⟨r, hr⟩ : ∃ r, totE l = r := ⟨_, rfl⟩
  rw [hr]
  have hr := Lib.hid hr
  have hat : ∀ W, Ext w W → ∀ k, k < n → ∃ b o x, a = some ⟨b, o, none⟩ ∧ BlkLt b W ∧ W.cell? ⟨b, o + k, none⟩ = some (.int .i64 x) ∧ l[k]? = some x := fun W hW k hk => by
    obtain ⟨b, o, h1, h2, h3⟩ := (h.ext hW).at k (by simp; omega)
    refine ⟨b, o, l[k]'(by omega), h1, h2, by simpa using h3, List.getElem?_eq_getElem _⟩
  have hts : ∀ k x, l[k]? = some x → l.take (k + 1) = l.take k ++ [x] := fun k x hx => by
    obtain ⟨hk, rfl⟩ := List.getElem?_eq_some_iff.1 hx
    exact List.take_succ_eq_append_getElem hk
  go_enter Tryz.func103, Tryz.ntmps103
  go_wp2_with fail
  go_loopw [2, 5, 10] (fun v2 _ v10 wr => ∃ k : Nat, k ≤ n ∧ v2 = .int .i64 0 ∧ v10 = .int .i64 k ∧ Hid (∀ x ∈ l.take k, 0 ≤ x ∧ x ≤ 1280) ∧ Ext w wr) (fun _ _ v10 _ => n - (intOf v10).toNat)
  case atStart => exact ⟨0, by omega, rfl, rfl, Lib.hid (by simp), Ext.refl _⟩
  case round =>
    obtain ⟨k, hk, rfl, rfl, hm, hx⟩ := hrel
    by_cases hlt : k < n
    · obtain ⟨b0, o0, x, rfl, hb0, hc0, hxi⟩ := hat _ hx k hlt
      have i0 : (0 : Int) ≤ (k : Int) := by omega
      have i1 : (k : Int) < (n : Int) := by omega
      haveI := hb0
      by_cases q1 : x < 0
      · have er := Lib.hid (show r = (0, 4) by rw [← hr.out]; exact if_pos (badL_at hxi (.inl q1)))
        go_wp2_with fail
        go_ret2
        rw [er.out]
        exact ⟨rfl, hx⟩
      · by_cases q2 : 1280 < x
        · have er := Lib.hid (show r = (0, 4) by rw [← hr.out]; exact if_pos (badL_at hxi (.inr q2)))
          go_wp2_with fail
          go_ret2
          rw [er.out]
          exact ⟨rfl, hx⟩
        · have hm2 := Lib.hid (show ∀ y ∈ l.take (k + 1), 0 ≤ y ∧ y ≤ 1280 by
            rw [hts k x hxi]
            intro y hy
            rcases List.mem_append.1 hy with h | h
            · exact hm.out y h
            · rw [List.mem_singleton.1 h]; omega)
          go_wp2_with fail
          go_roundw
          case rel => exact ⟨k + 1, by omega, rfl, by go_num, hm2, hx⟩
          case measure => simp [intOf]; omega
    · obtain rfl : k = n := by omega
      have hall : ∀ x ∈ l, 0 ≤ x ∧ x ≤ 1280 := by have := hm.out; rwa [List.take_of_length_le (by omega)] at this
      have er := Lib.hid (show r = (((min (sumL l) 1281 : Nat) : Int), 0) by
        rw [← hr.out]
        exact if_neg (fun ⟨x, hx, hb⟩ => by have := hall x hx; omega))
      have hall := Lib.hid hall
      clear hm
      go_wp2_with fail
      go_loopw [2, 7, 23] (fun v2 _ v23 wr => ∃ j : Nat, j ≤ k ∧ v23 = .int .i64 j ∧ v2 = .int .i64 (min (sumL (l.take j)) 1281 : Nat) ∧ Ext w wr) (fun _ _ v23 _ => k - (intOf v23).toNat)
      case atStart => exact ⟨0, by omega, rfl, rfl, hx⟩
      case round =>
        clear hx
        obtain ⟨j, hj, rfl, rfl, hx⟩ := hrel
        by_cases hlt : j < k
        · obtain ⟨b0, o0, x, rfl, hb0, hc0, hxi⟩ := hat _ hx j hlt
          obtain ⟨x0, x1⟩ := hall.out x (List.mem_of_getElem? hxi)
          obtain ⟨m, rfl⟩ : ∃ m : Nat, x = (m : Int) := ⟨x.toNat, by omega⟩
          have i0 : (0 : Int) ≤ (j : Int) := by omega
          have i1 : (j : Int) < (k : Int) := by omega
          have hs := sumL_snoc (l.take j) (m : Int)
          rw [← hts j _ hxi, Int.toNat_natCast] at hs
          haveI := hb0
          have hsz : szN m = max 16 (pad4 (m + 4)) := by unfold szN pad4; omega
          have hp4 : pad4 (m + 4) ≤ 1300 := by unfold pad4; omega
          have hpp := fun W => ppadded_any (m + 4) (show (m : Int) + 4 = ((m + 4 : Nat) : Int) by omega) W (by omega)
          go_wp2_with (first
            | (go_at_call 94; refine (hpp _).mono ?_; rintro e w1 ⟨rfl, hxq⟩; obtain ⟨xq, rfl⟩ := hxq.out; clear hxq)
            | fail)
          go_roundw
          case rel => exact ⟨j + 1, by omega, by go_num, (by refine congrArg (Value.int IntKind.i64) ?_; rw [hs, hsz]; (try rw [Go.IntWalk.wrap64_in _ (by omega)]); omega), hx.trans (by repeat (first | (with_reducible first | exact Ext.refl _ | assumption | apply Ext.alloc | apply Ext.ext | apply Ext.drew | refine Ext.setCell ?_ ?_ _) | (focus (simp [go_sem]; done))))⟩
          case measure => simp [intOf]; omega
        · obtain rfl : j = k := by omega
          go_wp2_with fail
          go_ret2
          have htk : l.take j = l := List.take_of_length_le (by omega)
          rw [er.out]
          exact ⟨by rw [htk]; rfl, hx⟩

set_option maxRecDepth 100000 in
set_option maxHeartbeats 2000000 in
theorem plength_any (a b : Option Addr) (n c m d : Nat) (l k : List Int) (w : World) (h : Rd w a (l.map i64v)) (hn : l.length = n) (hb : n ≤ 1000000) (h2 : Rd w b (k.map i64v)) (hm : k.length = m) (hb2 : m ≤ 1000000) :
    Calls Tryz.prog 56 #[.slice a n c, .slice b m d] w fun e w' => e = .returned (.tuple #[.int .i64 (lenE l k).1, .int .i64 (lenE l k).2]) ∧ Ext w w' := by
  have ht1 := fun W H => ptotal_any a n c l W H hn hb
  have ht2 := fun W H => ptotal_any b m d k W H hm hb2
  obtain ⟨r, hr⟩ : ∃ r, lenE l k = r := ⟨_, rfl⟩
  rw [hr]
  have hr := Lib.hid hr
  go_enter Tryz.func56, Tryz.ntmps56
  go_wp2_with fail
  (with_reducible refine (ht1 w h).mono ?_)
  rintro e w1 ⟨rfl, hx1⟩
  go_wp2_with fail
  (with_reducible refine (ht2 w1 (h2.ext hx1)).mono ?_)
  rintro e w2 ⟨rfl, hx2⟩
  have hE := hx1.trans hx2
  clear ht1 ht2
  by_cases q1 : badL l
  · have er := Lib.hid (show r = (0, 4) by rw [← hr.out]; exact if_pos (.inl q1))
    rw [show totE l = (0, 4) from if_pos q1]
    generalize totE k = t at *
    go_wp2_with fail
    go_ret2
    rw [er.out]
    exact ⟨rfl, hE⟩
  · rw [show totE l = (((min (sumL l) 1281 : Nat) : Int), 0) from if_neg q1]
    by_cases q2 : badL k
    · have er := Lib.hid (show r = (0, 4) by rw [← hr.out]; exact if_pos (.inr q2))
      rw [show totE k = (0, 4) from if_pos q2]
      go_wp2_with fail
      go_ret2
      rw [er.out]
      exact ⟨rfl, hE⟩
    · rw [show totE k = (((min (sumL k) 1281 : Nat) : Int), 0) from if_neg q2]
      have hrr := hr.out
      unfold lenE at hrr
      rw [if_neg (fun h => h.elim q1 q2)] at hrr
      replace hrr := Lib.hid hrr
      generalize sumL l = A at *
      generalize sumL k = B at *
      obtain ⟨A1, hA⟩ : ∃ A1, min A 1281 = A1 := ⟨_, rfl⟩
      obtain ⟨B1, hB⟩ : ∃ B1, min B 1281 = B1 := ⟨_, rfl⟩
      have hA1 : A1 ≤ 1281 := by omega
      have hB1 : B1 ≤ 1281 := by omega
      have hpp := fun W => ppadded_any (16 + B1) (show (16 : Int) + (B1 : Int) = ((16 + B1 : Nat) : Int) by omega) W (by omega)
      have hpb : pad4 (16 + B1) ≤ 1310 := by unfold pad4; omega
      have hA := Lib.hid hA
      have hB := Lib.hid hB
      rw [hA.out, hB.out]
      have iall : (48 : Int) + (A1 : Int) + 4 + 4 + 16 + ((pad4 (16 + B1) : Nat) : Int) = ((allN A1 B1 : Nat) : Int) := by unfold allN; omega
      by_cases q3 : 1232 < max A1 B1
      · have er := Lib.hid (show r = (0, 2) by rw [← hrr.out, if_pos]; have := hA.out; have := hB.out; omega)
        have i3 : (1232 : Int) < max (A1 : Int) (B1 : Int) := by omega
        clear iall
        go_wp2_with (first
          | (go_at_call 94; refine (hpp _).mono ?_; rintro e w1 ⟨rfl, hxq⟩; obtain ⟨xq, rfl⟩ := hxq.out; clear hxq)
          | fail)
        go_ret2
        rw [er.out]
        exact ⟨rfl, hE.trans (by repeat (first | (with_reducible first | exact Ext.refl _ | assumption | apply Ext.alloc | apply Ext.ext | apply Ext.drew | refine Ext.setCell ?_ ?_ _) | (focus (simp [go_sem]; done))))⟩
      · have i3 : ¬ (1232 : Int) < max (A1 : Int) (B1 : Int) := by omega
        have eA : A = A1 := by have := hA.out; omega
        have eB : B = B1 := by have := hB.out; omega
        rw [eA, eB] at hrr
        have hal : allN A1 B1 = 72 + A1 + pad4 (16 + B1) := rfl
        by_cases q4 : 1280 < 72 + A1 + pad4 (16 + B1)
        · have er := Lib.hid (show r = (0, 2) by rw [← hrr.out, if_pos]; rw [hal]; omega)
          have i4 : (1280 : Int) < 48 + (A1 : Int) + 4 + 4 + 16 + ((pad4 (16 + B1) : Nat) : Int) := by omega
          clear iall hal eA eB
          go_wp2_with (first
            | (go_at_call 94; refine (hpp _).mono ?_; rintro e w1 ⟨rfl, hxq⟩; obtain ⟨xq, rfl⟩ := hxq.out; clear hxq)
            | fail)
          go_ret2
          rw [er.out]
          exact ⟨rfl, hE.trans (by repeat (first | (with_reducible first | exact Ext.refl _ | assumption | apply Ext.alloc | apply Ext.ext | apply Ext.drew | refine Ext.setCell ?_ ?_ _) | (focus (simp [go_sem]; done))))⟩
        · have er := Lib.hid (show r = (((allN A1 B1 : Nat) : Int), 0) by rw [← hrr.out, if_neg]; rw [hal]; omega)
          have i4 : ¬ (1280 : Int) < 48 + (A1 : Int) + 4 + 4 + 16 + ((pad4 (16 + B1) : Nat) : Int) := by omega
          have iall := Lib.hid iall
          clear hal eA eB
          go_wp2_with (first
            | (go_at_call 94; refine (hpp _).mono ?_; rintro e w1 ⟨rfl, hxq⟩; obtain ⟨xq, rfl⟩ := hxq.out; clear hxq)
            | fail)
          go_ret2
          rw [er.out, ← iall.out]
          exact ⟨rfl, hE.trans (by repeat (first | (with_reducible first | exact Ext.refl _ | assumption | apply Ext.alloc | apply Ext.ext | apply Ext.drew | refine Ext.setCell ?_ ?_ _) | (focus (simp [go_sem]; done))))⟩
end Go.Proofs.YtdmifbfgeeldnaaGreat

/- Layer 18: the sanity check. -/
namespace Go.Pkt
open Go.Oct Go.Aes Go.Sec
def p18 : Pkt := ⟨askH 7, [], [], false⟩
def z32 : List UInt8 := List.replicate 32 0
def z16 : List UInt8 := List.replicate 16 0
theorem fits18 : Fits p18 z16.length := ⟨askH_ok 7, by simp [p18], by simp [p18], by simp [p18], by simp [p18], by simp [p18], by decide, by decide, by decide⟩
def b18 : List UInt8 := hdrB p18.h ++ bytesF p18.plain ++ fldB (1028, guardB z16 (sealB z32 p18 z16))
theorem z32_len : z32.length = 32 := by decide
theorem prot18 : protE z32 p18 z16 = (b18, 0) := by unfold b18; exact (protE_fits z32_len fits18).1
theorem b18_len : b18.length = 88 := by
  have h := (protE_fits z32_len fits18).2
  unfold b18
  rw [List.length_append, h, List.length_append, hdrB_length]
  simp [bytesF, z16, pad4, totN, p18]
theorem open18 : openP z32 b18 = (⟨p18.h, p18.plain.map padF, p18.secret.map padF, true⟩, 0) := by unfold b18; exact openP_fits z32_len fits18
theorem len18 : lenE [] [] = (88, 0) := by decide
end Go.Pkt
namespace Go.Proofs.YtdmifbfgeeldnaaGreat
open Go.RowKit Go.Sec Go.Oct Go.Pkt Go.Aes BigFrame

set_option maxRecDepth 100000 in
set_option maxHeartbeats 2000000 in
theorem known18_any (w : World) : Calls Tryz.prog 16 #[] w fun e w' => e = .returned (.bool true) ∧ Ext w w' := by
  have hask := fun W => pask_any 7 W
  rw [show n64 7 = 7 from rfl] at hask
  have hmk := run_make_by U 32 32 (Nat.le_refl _) (by omega)
  have hmk16 := run_make_by U 16 16 (Nat.le_refl _) (by omega)
  simp only [Int.cast_ofNat_Int] at hmk hmk16
  go_enter Tryz.func16, Tryz.ntmps16
  go_wp2_with fail
  refine nameCl ?_
  intro W hW
  have hE : Ext w W := by rw [hW]; exact (by repeat (first | (with_reducible first | exact Ext.refl _ | assumption | apply Ext.alloc | apply Ext.ext | apply Ext.drew | refine Ext.setCell ?_ ?_ _) | (focus (simp [go_sem]; done))))
  have hK : Sl W (some ⟨w.heap.size, 0, none⟩) 32 z32 := by rw [hW]; exact (blk_zeros8 w 32).sl rfl
  clear hW
  (with_reducible refine (hask W).mono ?_)
  rintro e w1 ⟨rfl, hx1⟩
  have hE1 := hE.trans hx1
  have hK1 := hK.ext hx1
  clear hE hK hx1 hask
  go_wp2_with (first
    | (refine wpList_alloc_store (RP16) rfl rfl _ _ rfl rfl rfl rfl (by simp [Act.put]) ([.int .i64 0, .int .i64 4, .int .i64 3, .int .i64 0, .int .i64 6, .int .i64 0, .int .u32 0, .int .u32 0, .int .u32 0, .int .u64 0, .int .u64 0, .int .u64 0, .int .u64 7, .slice none 0 0, .slice none 0 0, .bool false]) rfl (by simp) (rfl) ((by simp; repeat' (first | rfl | constructor))) ?_; intro x hz _)
    | fail)
  refine nameW ?_
  intro W2 hW2
  have hx2 : Ext w1 W2 := by rw [hW2]; exact (by repeat (first | (with_reducible first | exact Ext.refl _ | assumption | apply Ext.alloc | apply Ext.ext | apply Ext.drew | refine Ext.setCell ?_ ?_ _) | (focus (simp [go_sem]; done))))
  have hB2 : Blk W2 w1.heap.size 32 [.int .i64 p18.h.leap, .int .i64 p18.h.ver, .int .i64 p18.h.mode, .int .i64 p18.h.strat, .int .i64 p18.h.poll, .int .i64 p18.h.prec, .int .u32 (n32 p18.h.rd), .int .u32 (n32 p18.h.rp), .int .u32 (n32 p18.h.id), .int .u64 (n64 p18.h.ref), .int .u64 (n64 p18.h.org), .int .u64 (n64 p18.h.rcv), .int .u64 (n64 p18.h.tx), .slice none 0 0, .slice none 0 0, .bool p18.guarded] := by rw [hW2]; exact hz.extB (by repeat (first | (with_reducible first | exact Ext.refl _ | assumption | apply Ext.alloc | apply Ext.ext | apply Ext.drew | refine Ext.setCell ?_ ?_ _) | (focus (simp [go_sem]; done))))
  have hE2 := hE1.trans hx2
  have hK2 := hK1.ext hx2
  clear hW2 hx2 hz hE1 hK1
  have hpr := fun a' c' W H1 H2 => pprotect_any (some ⟨w.heap.size, 0, none⟩) a' none none 32 32 16 c' 0 0 0 0 p18 z32 z16 W H1 (Nat.le_refl _) H2
  have prd : ∀ a' W, Sl W (some ⟨w.heap.size, 0, none⟩) 32 z32 → Sl W a' 16 z16 → Calls Tryz.prog 21 #[.slice (some ⟨w.heap.size, 0, none⟩) 32 32, .agg #[.int .i64 p18.h.leap, .int .i64 p18.h.ver, .int .i64 p18.h.mode, .int .i64 p18.h.strat, .int .i64 p18.h.poll, .int .i64 p18.h.prec, .int .u32 (n32 p18.h.rd), .int .u32 (n32 p18.h.rp), .int .u32 (n32 p18.h.id), .int .u64 (n64 p18.h.ref), .int .u64 (n64 p18.h.org), .int .u64 (n64 p18.h.rcv), .int .u64 (n64 p18.h.tx), .slice none 0 0, .slice none 0 0, .bool p18.guarded], .slice a' 16 16] W (Read2 88 b18 (.int .i64 0) W) := fun a' W H1 H2 => by
    have := hpr a' 16 W H1 H2 (Nat.le_refl _) (by omega) (Ib.nil _ _) (by omega) (by intro f hf; cases hf) (Ib.nil _ _) (by omega) (by intro f hf; cases hf)
    rw [prot18] at this
    rwa [show (b18, (0 : Int)).1.length = 88 from b18_len] at this
  haveI := hB2.blt
  refine wp_region_vague 8 [[], [], [], [0, 1, 2], [0, 1, 2, 3], [0, 1, 2, 3, 4], [0, 1, 2, 3, 4], [0, 1, 2, 3, 4, 5], [0, 1, 2, 3, 4, 5, 6, 7]] (by kernel_rfl) (by kernel_rfl) (by kernel_rfl) (by kernel_rfl) ?_; simp only [List.take_succ_cons, List.take_zero, List.drop_succ_cons, List.drop_zero, List.take_nil, List.drop_nil]
  (repeat (apply VD_der; (case h => (intro us w' hx hf; obtain ⟨x, rfl⟩ := hx.out; refine ⟨rfl, ?_⟩; simp [go_sem, execOp, *]; (try simp (disch := omega) only [Go.IntWalk.i64_in, Go.IntWalk.rem_in, Go.IntWalk.wrap64_in]); rfl)); (try simp only [Act.put, List.setIfInBounds_toArray, List.set_cons_succ, List.set_cons_zero])))
  (refine VD_load_arr (RP16) _ rfl (fun _ => rfl) (w1.heap.size) (0) (fun _ => by simp [go_sem]) ([.int .i64 p18.h.leap, .int .i64 p18.h.ver, .int .i64 p18.h.mode, .int .i64 p18.h.strat, .int .i64 p18.h.poll, .int .i64 p18.h.prec, .int .u32 (n32 p18.h.rd), .int .u32 (n32 p18.h.rp), .int .u32 (n32 p18.h.id), .int .u64 (n64 p18.h.ref), .int .u64 (n64 p18.h.org), .int .u64 (n64 p18.h.rcv), .int .u64 (n64 p18.h.tx), .slice none 0 0, .slice none 0 0, .bool p18.guarded]) (hB2.rd) (rfl) ?_)
  (refine VD_vag (fun p => .slice (p 0).1 (16) (16)) (fun p w'' => Sl w'' (p 0).1 (16) (z16)) (fun p w w' h hx => h.ext hx) (fun us w' hx hf => ⟨rfl, ?_⟩) ?_; (unfold gives; simp [go_sem, execOp, hmk16]; exact ⟨fun _ => (some ⟨w'.heap.size, 0, none⟩, 0), rfl, Ext.of_alloc _ _, (blk_zeros8 _ _).sl rfl⟩))
  (refine VD_vag (fun p => .tuple #[.slice (p 0).1 (88) (p 0).2, .int .i64 0]) (fun p w'' => Sl w'' (p 0).1 (88) (b18) ∧ (88) ≤ (p 0).2) (fun p w w' h hx => ⟨h.1.ext hx, h.2⟩) (fun us w' hx hf => ⟨rfl, ?_⟩) ?_; (unfold gives; simp [go_sem, execOp]; exact vag_read (prd _ _ (hK2.ext hx) (hf _ (List.mem_append_right _ (List.mem_singleton_self _)) rfl))))
  (repeat (apply VD_der; (case h => (intro us w' hx hf; obtain ⟨x, rfl⟩ := hx.out; refine ⟨rfl, ?_⟩; simp [go_sem, execOp, *]; (try simp (disch := omega) only [Go.IntWalk.i64_in, Go.IntWalk.rem_in, Go.IntWalk.wrap64_in]); rfl)); (try simp only [Act.put, List.setIfInBounds_toArray, List.set_cons_succ, List.set_cons_zero])))
  (refine VD_nil ?_; intro us w' hx hf; obtain ⟨x, rfl⟩ := hx.out; (try simp only [Act.put, List.setIfInBounds_toArray, List.set_cons_succ, List.set_cons_zero, wpList_none]); (try simp only [List.mem_cons, List.not_mem_nil, or_false, forall_eq_or_imp, forall_eq, List.nil_append, List.cons_append, List.mem_append, false_or, true_and, and_true] at hf); (try simp only [Nat.reduceAdd, Nat.zero_add] at hf); (try simp only [Nat.reduceAdd, Nat.zero_add]))
  obtain ⟨-, hS3, hc3⟩ := hf
  obtain ⟨a3, ha3⟩ : ∃ a, (us 3 0).1 = a := ⟨_, rfl⟩
  obtain ⟨c3, hc3'⟩ : ∃ a, (us 3 0).2 = a := ⟨_, rfl⟩
  rw [ha3] at hS3 ⊢
  rw [hc3'] at hc3 ⊢
  clear ha3 hc3' hpr prd hmk hmk16
  have hxx : Ext W2 (W2.ext x) := Ext.of_ext _ _
  have hE3 := hE2.trans hxx
  have hB3 := hB2.extB hxx
  have hK3 := hK2.ext hxx
  clear hE2 hB2 hK2 hxx
  generalize W2.ext x = W3 at *
  haveI := hB3.blt
  go_wp2_with fail
  (with_reducible refine (popenp_any (some ⟨w.heap.size, 0, none⟩) a3 32 32 88 c3 z32 b18 W3 hK3 (Nat.le_refl _) hS3 hc3 (by omega)).mono ?_)
  rw [open18]
  rintro e w4 ⟨a4, n4, c4, a5, n5, c5, rfl, -, -, -, -, hx4⟩
  have hE4 := hE3.trans hx4
  have hB4 := hB3.extB hx4
  clear hE3 hB3 hK3 hS3 hx4
  dsimp only
  haveI := hB4.blt
  have hlen := fun W => plength_any none none 0 0 0 0 [] [] W (Rd.nil _ _) rfl (by omega) (Rd.nil _ _) rfl (by omega)
  rw [len18] at hlen
  go_wp2_with (first
    | ((refine wpList_alloc_store (RP16) rfl rfl _ _ rfl rfl rfl rfl (by simp [Act.put]) ([.int .i64 p18.h.leap, .int .i64 p18.h.ver, .int .i64 p18.h.mode, .int .i64 p18.h.strat, .int .i64 p18.h.poll, .int .i64 p18.h.prec, .int .u32 (n32 p18.h.rd), .int .u32 (n32 p18.h.rp), .int .u32 (n32 p18.h.id), .int .u64 (n64 p18.h.ref), .int .u64 (n64 p18.h.org), .int .u64 (n64 p18.h.rcv), .int .u64 (n64 p18.h.tx), .slice a4 n4 c4, .slice a5 n5 c5, .bool true]) rfl (by simp) (rfl) ((by simp; repeat' (first | rfl | constructor))) ?_; intro x hz _); haveI := hz.blt; have f15 := hz.cell? 15 rfl)
    | (go_at_call 56; refine (hlen _).mono ?_; rintro e w1 ⟨rfl, hxq⟩; obtain ⟨xq, rfl⟩ := hxq.out; clear hxq)
    | (refine wpList_wanted (by simp [Region.wanted, yielded, Act.put]) ?_; (refine wpList_load_arr (RH13) rfl _ rfl (w4.heap.size) (0) rfl ([.int .i64 p18.h.leap, .int .i64 p18.h.ver, .int .i64 p18.h.mode, .int .i64 p18.h.strat, .int .i64 p18.h.poll, .int .i64 p18.h.prec, .int .u32 (n32 p18.h.rd), .int .u32 (n32 p18.h.rp), .int .u32 (n32 p18.h.id), .int .u64 (n64 p18.h.ref), .int .u64 (n64 p18.h.org), .int .u64 (n64 p18.h.rcv), .int .u64 (n64 p18.h.tx)]) ((Rd.left (vs := [.int .i64 p18.h.leap, .int .i64 p18.h.ver, .int .i64 p18.h.mode, .int .i64 p18.h.strat, .int .i64 p18.h.poll, .int .i64 p18.h.prec, .int .u32 (n32 p18.h.rd), .int .u32 (n32 p18.h.rp), .int .u32 (n32 p18.h.id), .int .u64 (n64 p18.h.ref), .int .u64 (n64 p18.h.org), .int .u64 (n64 p18.h.rcv), .int .u64 (n64 p18.h.tx)]) (us := [.slice a4 n4 c4, .slice a5 n5 c5, .bool true]) (hz.extB (by repeat (first | (with_reducible first | exact Ext.refl _ | assumption | apply Ext.alloc | apply Ext.ext | apply Ext.drew | refine Ext.setCell ?_ ?_ _) | (focus (simp [go_sem]; done))))).rd)) (rfl) ?_))
    | (refine wpList_wanted (by simp [Region.wanted, yielded, Act.put]) ?_; (refine wpList_load_arr (RH13) rfl _ rfl (w1.heap.size) (0) rfl ([.int .i64 p18.h.leap, .int .i64 p18.h.ver, .int .i64 p18.h.mode, .int .i64 p18.h.strat, .int .i64 p18.h.poll, .int .i64 p18.h.prec, .int .u32 (n32 p18.h.rd), .int .u32 (n32 p18.h.rp), .int .u32 (n32 p18.h.id), .int .u64 (n64 p18.h.ref), .int .u64 (n64 p18.h.org), .int .u64 (n64 p18.h.rcv), .int .u64 (n64 p18.h.tx)]) ((Rd.left (vs := [.int .i64 p18.h.leap, .int .i64 p18.h.ver, .int .i64 p18.h.mode, .int .i64 p18.h.strat, .int .i64 p18.h.poll, .int .i64 p18.h.prec, .int .u32 (n32 p18.h.rd), .int .u32 (n32 p18.h.rp), .int .u32 (n32 p18.h.id), .int .u64 (n64 p18.h.ref), .int .u64 (n64 p18.h.org), .int .u64 (n64 p18.h.rcv), .int .u64 (n64 p18.h.tx)]) (us := [.slice none 0 0, .slice none 0 0, .bool p18.guarded]) (hB4.extB (by repeat (first | (with_reducible first | exact Ext.refl _ | assumption | apply Ext.alloc | apply Ext.ext | apply Ext.drew | refine Ext.setCell ?_ ?_ _) | (focus (simp [go_sem]; done))))).rd)) (rfl) ?_))
    | fail)
  go_ret
  exact ⟨rfl, hE4.trans (by repeat (first | (with_reducible first | exact Ext.refl _ | assumption | apply Ext.alloc | apply Ext.ext | apply Ext.drew | refine Ext.setCell ?_ ?_ _) | (focus (simp [go_sem]; done))))⟩
end Go.Proofs.YtdmifbfgeeldnaaGreat
