/- Lemmas of this claim, several texts joined. -/
import Derived.Test.YtdmifbfgeeldnaaGreatZ6
import Derived.Test.YtdmifbfgeeldnaaGreatZ35
import Derived.Test.YtdmifbfgeeldnaaGreatZ36
set_option linter.unusedVariables false
set_option linter.unusedSimpArgs false
/- Layer 18: the law ProtectActs. -/
namespace Go.Pkt
def lightF (L : List Fld) : Bool := L.all fun f => decide (f.2.length ≤ 100)
def lightP (p : Pkt) : Bool := decide (p.plain.length ≤ 26) && (decide (p.secret.length ≤ 26) && (lightF p.plain && lightF p.secret))
theorem lightF_take {L : List Fld} {i : Nat} {y : Fld} (h : L[i]? = some y) : lightF (L.take (i + 1)) = (lightF (L.take i) && decide (y.2.length ≤ 100)) := by
  unfold lightF
  rw [List.take_add_one, h, List.all_append]
  simp
theorem lightF_no {L : List Fld} {i : Nat} {y : Fld} (h : L[i]? = some y) (hy : ¬ y.2.length ≤ 100) : lightF L = false := by
  unfold lightF
  rw [List.all_eq_false]
  exact ⟨y, List.mem_of_getElem? h, by simpa using hy⟩
theorem lightF_yes {L : List Fld} (h : lightF L = true) : ∀ f ∈ L, f.2.length ≤ 100 := fun f hf => by
  unfold lightF at h
  have := List.all_eq_true.1 h f hf
  simpa using this
end Go.Pkt
namespace Go.Proofs.YtdmifbfgeeldnaaGreat
open Go.RowKit Go.Sec Go.Oct Go.Pkt Go.Aes Go.Sha BigFrame

set_option maxRecDepth 100000 in
set_option maxHeartbeats 1000000 in
theorem light18_any (p : Pkt) (a1 a2 : Option Addr) (n1 c1 n2 c2 : Nat) (w : World) (hI1 : Ib w a1 n1 p.plain) (hI2 : Ib w a2 n2 p.secret) :
    Calls Tryz.prog 18 #[.agg #[.int .i64 p.h.leap, .int .i64 p.h.ver, .int .i64 p.h.mode, .int .i64 p.h.strat, .int .i64 p.h.poll, .int .i64 p.h.prec, .int .u32 (n32 p.h.rd), .int .u32 (n32 p.h.rp), .int .u32 (n32 p.h.id), .int .u64 (n64 p.h.ref), .int .u64 (n64 p.h.org), .int .u64 (n64 p.h.rcv), .int .u64 (n64 p.h.tx), .slice a1 n1 c1, .slice a2 n2 c2, .bool p.guarded]] w fun e w' => e = .returned (.bool (lightP p)) ∧ Ext w w' := by
  have l1 := hI1.len
  have l2 := hI2.len
  obtain ⟨r, hr⟩ : ∃ r, lightP p = r := ⟨_, rfl⟩
  rw [hr]
  replace hr := Lib.hid hr
  by_cases q1 : 26 < n1
  · have er := Lib.hid (show r = false by rw [← hr.out]; unfold lightP; rw [decide_eq_false (by omega)]; rfl)
    have i1 : (26 : Int) < (n1 : Int) := by omega
    clear l1 l2
    go_enter Tryz.func18, Tryz.ntmps18
    go_wp2_with fail
    go_ret
    exact ⟨by rw [er.out]; rfl, Ext.of_alloc _ _⟩
  have i1 : ¬ (26 : Int) < (n1 : Int) := by omega
  by_cases q2 : 26 < n2
  · have er := Lib.hid (show r = false by rw [← hr.out]; unfold lightP; rw [decide_eq_false (show ¬ p.secret.length ≤ 26 by omega)]; simp)
    have i2 : (26 : Int) < (n2 : Int) := by omega
    clear l1 l2
    go_enter Tryz.func18, Tryz.ntmps18
    go_wp2_with fail
    go_ret
    exact ⟨by rw [er.out]; rfl, Ext.of_alloc _ _⟩
  have i2 : ¬ (26 : Int) < (n2 : Int) := by omega
  have hr2 := Lib.hid (show r = (lightF p.plain && lightF p.secret) by rw [← hr.out]; unfold lightP; rw [decide_eq_true (by omega), decide_eq_true (show p.secret.length ≤ 26 by omega)]; rfl)
  clear hr
  go_enter Tryz.func18, Tryz.ntmps18
  go_wp2_with fail
  refine nameW ?_
  intro W hW
  have hE : Ext w W := by rw [hW]; exact (by repeat (first | (with_reducible first | exact Ext.refl _ | assumption | apply Ext.alloc | apply Ext.ext | apply Ext.drew | refine Ext.setCell ?_ ?_ _) | (focus (simp [go_sem]; done))))
  have hB : Blk W w.heap.size 32 [.int .i64 p.h.leap, .int .i64 p.h.ver, .int .i64 p.h.mode, .int .i64 p.h.strat, .int .i64 p.h.poll, .int .i64 p.h.prec, .int .u32 (n32 p.h.rd), .int .u32 (n32 p.h.rp), .int .u32 (n32 p.h.id), .int .u64 (n64 p.h.ref), .int .u64 (n64 p.h.org), .int .u64 (n64 p.h.rcv), .int .u64 (n64 p.h.tx), .slice a1 n1 c1, .slice a2 n2 c2, .bool p.guarded] := by rw [hW]; exact (by repeat (first | assumption | (refine Blk.newAt _ _ _ _ ?_; first | rfl | (simp only [World.size_alloc]; done)) | apply Blk.ext | apply Blk.alloc | (refine Blk.other ?_ ?_ _; rotate_left; (simp <;> omega))))
  clear hW
  go_loopw [3] (fun v3 wr => ∃ i : Nat, i ≤ n1 ∧ v3 = .int .i64 i ∧ Hid (lightF (p.plain.take i) = true) ∧ Ext W wr) (fun v3 _ => n1 - (intOf v3).toNat)
  case atStart => exact ⟨0, by omega, rfl, Lib.hid rfl, Below.refl _ _⟩
  case round =>
    obtain ⟨i, hi, rfl, hm, hX⟩ := hrel
    have hB := hB.extB hX
    haveI := hB.blt
    have f13 : wr.cell? ⟨w.heap.size, 13, none⟩ = some (.slice a1 n1 c1) := hB.cell? 13 rfl
    by_cases hlt : i < n1
    · obtain ⟨y, hy⟩ : ∃ y, p.plain[i]? = some y := ⟨_, List.getElem?_eq_getElem (by omega)⟩
      obtain ⟨g0, o0, g', c', rfl, hb0, hc0, hc1, hSk, hcy⟩ := (hI1.ext (hE.trans hX)).at i hlt _ hy
      have k0 : (0 : Int) ≤ (i : Int) := by omega
      have k1 : (i : Int) < (n1 : Int) := by omega
      haveI := hb0
      by_cases h100 : 100 < y.2.length
      · have er := Lib.hid (show r = false by rw [hr2.out, lightF_no hy (by omega)]; rfl)
        have k2 : (100 : Int) < (y.2.length : Int) := by omega
        clear hy hm
        go_wp2_with fail
        go_ret
        exact ⟨by rw [er.out]; rfl, hE.trans hX⟩
      · have hm2 := Lib.hid (show lightF (p.plain.take (i + 1)) = true by rw [lightF_take hy, hm.out, decide_eq_true (by omega)]; rfl)
        have k2 : ¬ (100 : Int) < (y.2.length : Int) := by omega
        clear hy hm
        go_wp2_with fail
        go_roundw
        case rel => exact ⟨i + 1, by omega, by go_num, hm2, hX⟩
        case measure => simp [intOf]; omega
    · obtain rfl : i = n1 := by omega
      have k1 : ¬ (i : Int) < (i : Int) := by omega
      have hr3 := Lib.hid (show r = lightF p.secret by have := hm.out; rw [List.take_of_length_le (by omega)] at this; rw [hr2.out, this]; rfl)
      have hE := hE.trans hX
      have hI2 := hI2.ext hE
      clear hm hX
      go_wp2_with fail
      clear f13
      obtain ⟨V, hV⟩ : ∃ V, V = wr := ⟨_, rfl⟩
      rw [← hV] at hB hE hI2 ⊢
      clear hV
      go_loopw [4] (fun v4 wr => ∃ j : Nat, j ≤ n2 ∧ v4 = .int .i64 j ∧ Hid (lightF (p.secret.take j) = true) ∧ Ext V wr) (fun v4 _ => n2 - (intOf v4).toNat)
      case atStart => exact ⟨0, by omega, rfl, Lib.hid rfl, Below.refl _ _⟩
      case round =>
        obtain ⟨j, hj, rfl, hm, hX⟩ := hrel
        have hB := hB.extB hX
        haveI := hB.blt
        have f14 : wr.cell? ⟨w.heap.size, 14, none⟩ = some (.slice a2 n2 c2) := hB.cell? 14 rfl
        by_cases hlt : j < n2
        · obtain ⟨y, hy⟩ : ∃ y, p.secret[j]? = some y := ⟨_, List.getElem?_eq_getElem (by omega)⟩
          obtain ⟨g0, o0, g', c', rfl, hb0, hc0, hc1, hSk, hcy⟩ := (hI2.ext hX).at j hlt _ hy
          have k0 : (0 : Int) ≤ (j : Int) := by omega
          have k1 : (j : Int) < (n2 : Int) := by omega
          haveI := hb0
          by_cases h100 : 100 < y.2.length
          · have er := Lib.hid (show r = false by rw [hr3.out, lightF_no hy (by omega)])
            have k2 : (100 : Int) < (y.2.length : Int) := by omega
            clear hy hm
            go_wp2_with fail
            go_ret
            exact ⟨by rw [er.out]; rfl, hE.trans hX⟩
          · have hm2 := Lib.hid (show lightF (p.secret.take (j + 1)) = true by rw [lightF_take hy, hm.out, decide_eq_true (by omega)]; rfl)
            have k2 : ¬ (100 : Int) < (y.2.length : Int) := by omega
            clear hy hm
            go_wp2_with fail
            go_roundw
            case rel => exact ⟨j + 1, by omega, by go_num, hm2, hX⟩
            case measure => simp [intOf]; omega
        · obtain rfl : j = n2 := by omega
          have k1 : ¬ (j : Int) < (j : Int) := by omega
          have er := Lib.hid (show r = true by have := hm.out; rw [List.take_of_length_le (by omega)] at this; rw [hr3.out, this])
          clear hm
          go_wp2_with fail
          go_ret
          exact ⟨by rw [er.out]; rfl, hE.trans hX⟩

def PkR (w : World) (v : Value) (p : Pkt) : Prop := ∃ a1 n1 c1 a2 n2 c2, v = .agg #[.int .i64 p.h.leap, .int .i64 p.h.ver, .int .i64 p.h.mode, .int .i64 p.h.strat, .int .i64 p.h.poll, .int .i64 p.h.prec, .int .u32 (n32 p.h.rd), .int .u32 (n32 p.h.rp), .int .u32 (n32 p.h.id), .int .u64 (n64 p.h.ref), .int .u64 (n64 p.h.org), .int .u64 (n64 p.h.rcv), .int .u64 (n64 p.h.tx), .slice a1 n1 c1, .slice a2 n2 c2, .bool p.guarded] ∧ Ib w a1 n1 p.plain ∧ n1 ≤ c1 ∧ Ib w a2 n2 p.secret ∧ n2 ≤ c2
set_option maxRecDepth 100000 in
set_option maxHeartbeats 1000000 in
theorem protectActs_walk (ak : Option Addr) (nk ck : Nat) (v : Value) (p : Pkt) (an : Option Addr) (nn cn : Nat) (ab : Option Addr) (nb cb : Nat) (ky nonce b : List UInt8) (w : World) (hk : Sl w ak nk ky) (hck : nk ≤ ck) (hp : PkR w v p) (hn : Sl w an nn nonce) (hcn : nn ≤ cn) (hb : Sl w ab nb b) (hcb : nb ≤ cb) :
    Calls Tryz.prog 4 #[.slice ak nk ck, v, .slice an nn cn, .slice ab nb cb] w fun e w' => e = .returned (.bool true) ∧ Ext w w' := by
  obtain ⟨a1, n1, c1, a2, n2, c2, rfl, hI1, hc1, hI2, hc2⟩ := hp
  have hkn := fun W => known18_any W
  have l1 := hI1.len
  have l2 := hI2.len
  by_cases q1 : 60 < nk
  · have i1 : (60 : Int) < (nk : Int) := by omega
    clear l1 l2
    go_enter Tryz.func4, Tryz.ntmps4
    go_wp2_with fail
    (with_reducible refine (hkn _).mono ?_); rintro e w1 ⟨rfl, hx1⟩
    go_wp2_with fail
    go_ret
    exact ⟨rfl, (Ext.of_alloc _ _).trans hx1⟩
  have i1 : ¬ (60 : Int) < (nk : Int) := by omega
  go_enter Tryz.func4, Tryz.ntmps4
  go_wp2_with (first
    | (refine wpList_wanted (by simp [Region.wanted, yielded, Act.put]) ?_; (refine wpList_load_arr (RP16) rfl _ rfl (w.heap.size) (0) rfl ([.int .i64 p.h.leap, .int .i64 p.h.ver, .int .i64 p.h.mode, .int .i64 p.h.strat, .int .i64 p.h.poll, .int .i64 p.h.prec, .int .u32 (n32 p.h.rd), .int .u32 (n32 p.h.rp), .int .u32 (n32 p.h.id), .int .u64 (n64 p.h.ref), .int .u64 (n64 p.h.org), .int .u64 (n64 p.h.rcv), .int .u64 (n64 p.h.tx), .slice a1 n1 c1, .slice a2 n2 c2, .bool p.guarded]) ((Blk.new w #[.int .i64 p.h.leap, .int .i64 p.h.ver, .int .i64 p.h.mode, .int .i64 p.h.strat, .int .i64 p.h.poll, .int .i64 p.h.prec, .int .u32 (n32 p.h.rd), .int .u32 (n32 p.h.rp), .int .u32 (n32 p.h.id), .int .u64 (n64 p.h.ref), .int .u64 (n64 p.h.org), .int .u64 (n64 p.h.rcv), .int .u64 (n64 p.h.tx), .slice a1 n1 c1, .slice a2 n2 c2, .bool p.guarded] 32).rd) (rfl) ?_))
    | fail)
  have hxa := Ext.of_alloc w (.cells #[.int .i64 p.h.leap, .int .i64 p.h.ver, .int .i64 p.h.mode, .int .i64 p.h.strat, .int .i64 p.h.poll, .int .i64 p.h.prec, .int .u32 (n32 p.h.rd), .int .u32 (n32 p.h.rp), .int .u32 (n32 p.h.id), .int .u64 (n64 p.h.ref), .int .u64 (n64 p.h.org), .int .u64 (n64 p.h.rcv), .int .u64 (n64 p.h.tx), .slice a1 n1 c1, .slice a2 n2 c2, .bool p.guarded] 32)
  (with_reducible refine (light18_any p a1 a2 n1 c1 n2 c2 _ (hI1.ext hxa) (hI2.ext hxa)).mono ?_)
  rintro e w1 ⟨rfl, hx1⟩
  have hE := hxa.trans hx1
  have hB := (Blk.new w #[.int .i64 p.h.leap, .int .i64 p.h.ver, .int .i64 p.h.mode, .int .i64 p.h.strat, .int .i64 p.h.poll, .int .i64 p.h.prec, .int .u32 (n32 p.h.rd), .int .u32 (n32 p.h.rp), .int .u32 (n32 p.h.id), .int .u64 (n64 p.h.ref), .int .u64 (n64 p.h.org), .int .u64 (n64 p.h.rcv), .int .u64 (n64 p.h.tx), .slice a1 n1 c1, .slice a2 n2 c2, .bool p.guarded] 32).extB hx1
  have hB : Blk w1 w.heap.size 32 [.int .i64 p.h.leap, .int .i64 p.h.ver, .int .i64 p.h.mode, .int .i64 p.h.strat, .int .i64 p.h.poll, .int .i64 p.h.prec, .int .u32 (n32 p.h.rd), .int .u32 (n32 p.h.rp), .int .u32 (n32 p.h.id), .int .u64 (n64 p.h.ref), .int .u64 (n64 p.h.org), .int .u64 (n64 p.h.rcv), .int .u64 (n64 p.h.tx), .slice a1 n1 c1, .slice a2 n2 c2, .bool p.guarded] := hB
  clear hx1 hxa
  cases hL : lightP p
  · clear hk
    go_wp2_with fail
    (with_reducible refine (hkn _).mono ?_); rintro e w2 ⟨rfl, hx2⟩
    go_wp2_with fail
    go_ret
    exact ⟨rfl, hE.trans hx2⟩
  by_cases q3 : 60 < nn
  · have i3 : (60 : Int) < (nn : Int) := by omega
    go_wp2_with fail
    (with_reducible refine (hkn _).mono ?_); rintro e w2 ⟨rfl, hx2⟩
    go_wp2_with fail
    go_ret
    exact ⟨rfl, hE.trans hx2⟩
  have i3 : ¬ (60 : Int) < (nn : Int) := by omega
  by_cases q4 : 600 < nb
  · have i4 : (600 : Int) < (nb : Int) := by omega
    go_wp2_with fail
    (with_reducible refine (hkn _).mono ?_); rintro e w2 ⟨rfl, hx2⟩
    go_wp2_with fail
    go_ret
    exact ⟨rfl, hE.trans hx2⟩
  have i4 : ¬ (600 : Int) < (nb : Int) := by omega
  simp only [lightP, Bool.and_eq_true, decide_eq_true_eq] at hL
  obtain ⟨L1, L2, L3, L4⟩ := hL
  have hF1 : ∀ f ∈ p.plain, f.2.length ≤ 1000000 := fun f hf => Nat.le_trans (lightF_yes L3 f hf) (by decide)
  have hF2 : ∀ f ∈ p.secret, f.2.length ≤ 1000000 := fun f hf => Nat.le_trans (lightF_yes L4 f hf) (by decide)
  have hI1 := hI1.ext hE
  have hI2 := hI2.ext hE
  have hk := hk.ext hE
  have hn := hn.ext hE
  have hb := hb.ext hE
  have hm1 : n1 ≤ 1000000 := by omega
  have hm2 : n2 ≤ 1000000 := by omega
  have hmn : nn ≤ 1000000 := by omega
  have hmb : nb ≤ 1000000 := by omega
  have s1 := readE_small b
  have s2 := openP_small ky b
  have c1a := fun W A (B : Ib W a2 n2 p.secret) => pbare_any a1 a2 n1 c1 n2 c2 p W A hm1 hF1 B.len
  have c1b := fun W A B => rpbare_any p a1 a2 n1 c1 n2 c2 W A hm1 hF1 B
  have c2a := fun W A B C D => pprotect_any ak an a1 a2 nk ck nn cn n1 c1 n2 c2 p ky nonce W A hck B hcn hmn C hm1 hF1 D hm2 hF2
  have c2b := fun W A B C D => rprotect_any ak an a1 a2 nk ck nn cn n1 c1 n2 c2 p ky nonce W A hck B hcn hmn C hm1 hF1 D hm2 hF2
  have c3a := fun W A => pread_any ab nb cb b W A hcb hmb
  have c3b := fun W A => rpread_any ab nb cb b W A hcb hmb
  have c4a := fun W A B => popenp_any ak ab nk ck nb cb ky b W A hck B hcb hmb
  have c4b := fun W A B => ropenp_any ak ab nk ck nb cb ky b W A hck B hcb hmb
  generalize bareE p = R1 at *
  generalize protE ky p nonce = R2 at *
  generalize readE b = R3 at *
  generalize openP ky b = R4 at *
  have s24a : R3.1.plain.length ≤ 1000000 := by omega
  have s24b : R4.1.plain.length ≤ 1000000 := by omega
  have s24c : R4.1.secret.length ≤ 1000000 := by omega
  clear q1 q3 q4 l1 l2 L1 L2 L3 L4 s1 s2
  haveI := hB.blt
  go_wp2_with (first | (refine wpList_load_arr (RP16) rfl _ rfl (w.heap.size) (0) rfl ([.int .i64 p.h.leap, .int .i64 p.h.ver, .int .i64 p.h.mode, .int .i64 p.h.strat, .int .i64 p.h.poll, .int .i64 p.h.prec, .int .u32 (n32 p.h.rd), .int .u32 (n32 p.h.rp), .int .u32 (n32 p.h.id), .int .u64 (n64 p.h.ref), .int .u64 (n64 p.h.org), .int .u64 (n64 p.h.rcv), .int .u64 (n64 p.h.tx), .slice a1 n1 c1, .slice a2 n2 c2, .bool p.guarded]) (hB.rd) (rfl) ?_) | fail)
  (with_reducible refine (c1a _ (hI1) (hI2)).mono ?_)
  rintro e w2 ⟨p1, d1, rfl, hS1, hd1, hx⟩
  have hB := hB.extB hx
  have hI1 := hI1.ext hx
  have hI2 := hI2.ext hx
  have hk := hk.ext hx
  have hn := hn.ext hx
  have hb := hb.ext hx
  have hE := hE.trans hx
  clear hx c1a
  haveI := hB.blt
  go_wp2_with (first | (refine wpList_load_arr (RP16) rfl _ rfl (w.heap.size) (0) rfl ([.int .i64 p.h.leap, .int .i64 p.h.ver, .int .i64 p.h.mode, .int .i64 p.h.strat, .int .i64 p.h.poll, .int .i64 p.h.prec, .int .u32 (n32 p.h.rd), .int .u32 (n32 p.h.rp), .int .u32 (n32 p.h.id), .int .u64 (n64 p.h.ref), .int .u64 (n64 p.h.org), .int .u64 (n64 p.h.rcv), .int .u64 (n64 p.h.tx), .slice a1 n1 c1, .slice a2 n2 c2, .bool p.guarded]) (hB.rd) (rfl) ?_) | fail)
  (with_reducible refine (c1b _ (hI1) (hI2)).mono ?_)
  rintro e w3 ⟨p2, d2, rfl, hS2, hd2, hx⟩
  have hB := hB.extB hx
  have hI1 := hI1.ext hx
  have hI2 := hI2.ext hx
  have hk := hk.ext hx
  have hn := hn.ext hx
  have hb := hb.ext hx
  have hS1 := hS1.ext hx
  have hE := hE.trans hx
  clear hx c1b
  haveI := hB.blt
  go_wp2_with (first | (refine wpList_load_arr (RP16) rfl _ rfl (w.heap.size) (0) rfl ([.int .i64 p.h.leap, .int .i64 p.h.ver, .int .i64 p.h.mode, .int .i64 p.h.strat, .int .i64 p.h.poll, .int .i64 p.h.prec, .int .u32 (n32 p.h.rd), .int .u32 (n32 p.h.rp), .int .u32 (n32 p.h.id), .int .u64 (n64 p.h.ref), .int .u64 (n64 p.h.org), .int .u64 (n64 p.h.rcv), .int .u64 (n64 p.h.tx), .slice a1 n1 c1, .slice a2 n2 c2, .bool p.guarded]) (hB.rd) (rfl) ?_) | fail)
  (with_reducible refine (c2a _ hk hn hI1 hI2).mono ?_)
  rintro e w4 ⟨p3, d3, rfl, hS3, hd3, hx⟩
  have hB := hB.extB hx
  have hI1 := hI1.ext hx
  have hI2 := hI2.ext hx
  have hk := hk.ext hx
  have hn := hn.ext hx
  have hb := hb.ext hx
  have hS1 := hS1.ext hx
  have hS2 := hS2.ext hx
  have hE := hE.trans hx
  clear hx c2a
  haveI := hB.blt
  go_wp2_with (first | (refine wpList_load_arr (RP16) rfl _ rfl (w.heap.size) (0) rfl ([.int .i64 p.h.leap, .int .i64 p.h.ver, .int .i64 p.h.mode, .int .i64 p.h.strat, .int .i64 p.h.poll, .int .i64 p.h.prec, .int .u32 (n32 p.h.rd), .int .u32 (n32 p.h.rp), .int .u32 (n32 p.h.id), .int .u64 (n64 p.h.ref), .int .u64 (n64 p.h.org), .int .u64 (n64 p.h.rcv), .int .u64 (n64 p.h.tx), .slice a1 n1 c1, .slice a2 n2 c2, .bool p.guarded]) (hB.rd) (rfl) ?_) | fail)
  (with_reducible refine (c2b _ hk hn hI1 hI2).mono ?_)
  rintro e w5 ⟨p4, d4, rfl, hS4, hd4, hx⟩
  have hB := hB.extB hx
  have hI1 := hI1.ext hx
  have hI2 := hI2.ext hx
  have hk := hk.ext hx
  have hn := hn.ext hx
  have hb := hb.ext hx
  have hS1 := hS1.ext hx
  have hS2 := hS2.ext hx
  have hS3 := hS3.ext hx
  have hE := hE.trans hx
  clear hx c2b
  clear hB hI1 hI2
  go_wp2_with fail
  (with_reducible refine (c3a _ hb).mono ?_)
  rintro e w6 ⟨p5, d5, rfl, ⟨B5, hO5⟩, hx⟩
  have hk := hk.ext hx
  have hn := hn.ext hx
  have hb := hb.ext hx
  have hS1 := hS1.ext hx
  have hS2 := hS2.ext hx
  have hS3 := hS3.ext hx
  have hS4 := hS4.ext hx
  have hE := hE.trans hx
  clear hx c3a
  have hI5 := hO5.ib.1
  go_wp2_with (first
    | (refine wpList_alloc_store (RP16) rfl rfl _ _ rfl rfl rfl rfl (by simp [Act.put]) ([.int .i64 R3.1.h.leap, .int .i64 R3.1.h.ver, .int .i64 R3.1.h.mode, .int .i64 R3.1.h.strat, .int .i64 R3.1.h.poll, .int .i64 R3.1.h.prec, .int .u32 (n32 R3.1.h.rd), .int .u32 (n32 R3.1.h.rp), .int .u32 (n32 R3.1.h.id), .int .u64 (n64 R3.1.h.ref), .int .u64 (n64 R3.1.h.org), .int .u64 (n64 R3.1.h.rcv), .int .u64 (n64 R3.1.h.tx), .slice p5 R3.1.plain.length d5, .slice none 0 0, .bool false]) rfl (by simp) (rfl) ((by simp; repeat' (first | rfl | constructor))) ?_; intro y5 hB5 _)
    | fail)
  have hx : Ext w6 (w6.ext y5) := Ext.of_ext _ _
  have hk := hk.ext hx
  have hn := hn.ext hx
  have hb := hb.ext hx
  have hS1 := hS1.ext hx
  have hS2 := hS2.ext hx
  have hS3 := hS3.ext hx
  have hS4 := hS4.ext hx
  have hI5 := hI5.ext hx
  have hE := hE.trans hx
  clear hx
  obtain ⟨g5, hg5e⟩ : ∃ g, g = w6.heap.size := ⟨_, rfl⟩
  rw [← hg5e] at hB5 ⊢
  clear hg5e
  generalize w6.ext y5 = V5 at *
  (with_reducible refine (c3b _ hb).mono ?_)
  rintro e w7 ⟨p6, d6, rfl, ⟨B6, hO6⟩, hx⟩
  have hk := hk.ext hx
  have hn := hn.ext hx
  have hb := hb.ext hx
  have hS1 := hS1.ext hx
  have hS2 := hS2.ext hx
  have hS3 := hS3.ext hx
  have hS4 := hS4.ext hx
  have hI5 := hI5.ext hx
  have hB5 := hB5.extB hx
  have hE := hE.trans hx
  clear hx c3b
  have hI6 := hO6.ib.1
  go_wp2_with (first
    | (refine wpList_alloc_store (RP16) rfl rfl _ _ rfl rfl rfl rfl (by simp [Act.put]) ([.int .i64 R3.1.h.leap, .int .i64 R3.1.h.ver, .int .i64 R3.1.h.mode, .int .i64 R3.1.h.strat, .int .i64 R3.1.h.poll, .int .i64 R3.1.h.prec, .int .u32 (n32 R3.1.h.rd), .int .u32 (n32 R3.1.h.rp), .int .u32 (n32 R3.1.h.id), .int .u64 (n64 R3.1.h.ref), .int .u64 (n64 R3.1.h.org), .int .u64 (n64 R3.1.h.rcv), .int .u64 (n64 R3.1.h.tx), .slice p6 R3.1.plain.length d6, .slice none 0 0, .bool false]) rfl (by simp) (rfl) ((by simp; repeat' (first | rfl | constructor))) ?_; intro y6 hB6 _)
    | fail)
  have hx : Ext w7 (w7.ext y6) := Ext.of_ext _ _
  have hk := hk.ext hx
  have hn := hn.ext hx
  have hb := hb.ext hx
  have hS1 := hS1.ext hx
  have hS2 := hS2.ext hx
  have hS3 := hS3.ext hx
  have hS4 := hS4.ext hx
  have hI5 := hI5.ext hx
  have hB5 := hB5.extB hx
  have hI6 := hI6.ext hx
  have hE := hE.trans hx
  clear hx
  obtain ⟨g6, hg6e⟩ : ∃ g, g = w7.heap.size := ⟨_, rfl⟩
  rw [← hg6e] at hB6 ⊢
  clear hg6e
  generalize w7.ext y6 = V6 at *
  (with_reducible refine (c4a _ hk hb).mono ?_)
  rintro e w8 ⟨p7, m7, d7, t7, u7, v7, rfl, hI7, hc7, hJ7, hg7, hx⟩
  have hk := hk.ext hx
  have hn := hn.ext hx
  have hb := hb.ext hx
  have hS1 := hS1.ext hx
  have hS2 := hS2.ext hx
  have hS3 := hS3.ext hx
  have hS4 := hS4.ext hx
  have hI5 := hI5.ext hx
  have hB5 := hB5.extB hx
  have hI6 := hI6.ext hx
  have hB6 := hB6.extB hx
  have hE := hE.trans hx
  clear hx c4a
  have hl7 := hI7.len
  have hm7 := hJ7.len
  obtain rfl : m7 = R4.1.plain.length := hl7.symm
  obtain rfl : u7 = R4.1.secret.length := hm7.symm
  go_wp2_with (first
    | (refine wpList_alloc_store (RP16) rfl rfl _ _ rfl rfl rfl rfl (by simp [Act.put]) ([.int .i64 R4.1.h.leap, .int .i64 R4.1.h.ver, .int .i64 R4.1.h.mode, .int .i64 R4.1.h.strat, .int .i64 R4.1.h.poll, .int .i64 R4.1.h.prec, .int .u32 (n32 R4.1.h.rd), .int .u32 (n32 R4.1.h.rp), .int .u32 (n32 R4.1.h.id), .int .u64 (n64 R4.1.h.ref), .int .u64 (n64 R4.1.h.org), .int .u64 (n64 R4.1.h.rcv), .int .u64 (n64 R4.1.h.tx), .slice p7 R4.1.plain.length d7, .slice t7 R4.1.secret.length v7, .bool R4.1.guarded]) rfl (by simp) (rfl) ((by simp; repeat' (first | rfl | constructor))) ?_; intro y7 hB7 _)
    | fail)
  have hx : Ext w8 (w8.ext y7) := Ext.of_ext _ _
  have hk := hk.ext hx
  have hn := hn.ext hx
  have hb := hb.ext hx
  have hS1 := hS1.ext hx
  have hS2 := hS2.ext hx
  have hS3 := hS3.ext hx
  have hS4 := hS4.ext hx
  have hI5 := hI5.ext hx
  have hB5 := hB5.extB hx
  have hI6 := hI6.ext hx
  have hB6 := hB6.extB hx
  have hI7 := hI7.ext hx
  have hJ7 := hJ7.ext hx
  have hE := hE.trans hx
  clear hx
  obtain ⟨g7, hg7e⟩ : ∃ g, g = w8.heap.size := ⟨_, rfl⟩
  rw [← hg7e] at hB7 ⊢
  clear hg7e
  generalize w8.ext y7 = V7 at *
  (with_reducible refine (c4b _ hk hb).mono ?_)
  rintro e w9 ⟨p8, m8, d8, t8, u8, v8, rfl, hI8, hc8, hJ8, hg8, hx⟩
  have hk := hk.ext hx
  have hn := hn.ext hx
  have hb := hb.ext hx
  have hS1 := hS1.ext hx
  have hS2 := hS2.ext hx
  have hS3 := hS3.ext hx
  have hS4 := hS4.ext hx
  have hI5 := hI5.ext hx
  have hB5 := hB5.extB hx
  have hI6 := hI6.ext hx
  have hB6 := hB6.extB hx
  have hI7 := hI7.ext hx
  have hJ7 := hJ7.ext hx
  have hB7 := hB7.extB hx
  have hE := hE.trans hx
  clear hx c4b
  have hl8 := hI8.len
  have hm8 := hJ8.len
  obtain rfl : m8 = R4.1.plain.length := hl8.symm
  obtain rfl : u8 = R4.1.secret.length := hm8.symm
  go_wp2_with (first
    | (refine wpList_alloc_store (RP16) rfl rfl _ _ rfl rfl rfl rfl (by simp [Act.put]) ([.int .i64 R4.1.h.leap, .int .i64 R4.1.h.ver, .int .i64 R4.1.h.mode, .int .i64 R4.1.h.strat, .int .i64 R4.1.h.poll, .int .i64 R4.1.h.prec, .int .u32 (n32 R4.1.h.rd), .int .u32 (n32 R4.1.h.rp), .int .u32 (n32 R4.1.h.id), .int .u64 (n64 R4.1.h.ref), .int .u64 (n64 R4.1.h.org), .int .u64 (n64 R4.1.h.rcv), .int .u64 (n64 R4.1.h.tx), .slice p8 R4.1.plain.length d8, .slice t8 R4.1.secret.length v8, .bool R4.1.guarded]) rfl (by simp) (rfl) ((by simp; repeat' (first | rfl | constructor))) ?_; intro y8 hB8 _)
    | fail)
  have hx : Ext w9 (w9.ext y8) := Ext.of_ext _ _
  have hk := hk.ext hx
  have hn := hn.ext hx
  have hb := hb.ext hx
  have hS1 := hS1.ext hx
  have hS2 := hS2.ext hx
  have hS3 := hS3.ext hx
  have hS4 := hS4.ext hx
  have hI5 := hI5.ext hx
  have hB5 := hB5.extB hx
  have hI6 := hI6.ext hx
  have hB6 := hB6.extB hx
  have hI7 := hI7.ext hx
  have hJ7 := hJ7.ext hx
  have hB7 := hB7.extB hx
  have hI8 := hI8.ext hx
  have hJ8 := hJ8.ext hx
  have hE := hE.trans hx
  clear hx
  obtain ⟨g8, hg8e⟩ : ∃ g, g = w9.heap.size := ⟨_, rfl⟩
  rw [← hg8e] at hB8 ⊢
  clear hg8e
  generalize w9.ext y8 = V8 at *
  (with_reducible refine (hkn _).mono ?_)
  rintro e w10 ⟨rfl, hx⟩
  have hk := hk.ext hx
  have hn := hn.ext hx
  have hb := hb.ext hx
  have hS1 := hS1.ext hx
  have hS2 := hS2.ext hx
  have hS3 := hS3.ext hx
  have hS4 := hS4.ext hx
  have hI5 := hI5.ext hx
  have hB5 := hB5.extB hx
  have hI6 := hI6.ext hx
  have hB6 := hB6.extB hx
  have hI7 := hI7.ext hx
  have hJ7 := hJ7.ext hx
  have hB7 := hB7.extB hx
  have hI8 := hI8.ext hx
  have hJ8 := hJ8.ext hx
  have hB8 := hB8.extB hx
  have hE := hE.trans hx
  clear hx
  haveI := hB5.blt
  haveI := hB6.blt
  haveI := hB7.blt
  haveI := hB8.blt
  have sm1 := fun W A B => same_any p1 p2 R1.1.length d1 R1.1.length d2 R1.1 R1.1 W A B
  have sm2 := fun W A B => same_any p3 p4 R2.1.length d3 R2.1.length d4 R2.1 R2.1 W A B
  simp only [beq_self_eq_true] at sm1 sm2
  go_wp2_with fail
  (with_reducible refine (sm1 _ hS1 hS2).mono ?_)
  rintro e w11 ⟨rfl, hx⟩
  have hk := hk.ext hx
  have hn := hn.ext hx
  have hb := hb.ext hx
  have hS1 := hS1.ext hx
  have hS2 := hS2.ext hx
  have hS3 := hS3.ext hx
  have hS4 := hS4.ext hx
  have hI5 := hI5.ext hx
  have hB5 := hB5.extB hx
  have hI6 := hI6.ext hx
  have hB6 := hB6.extB hx
  have hI7 := hI7.ext hx
  have hJ7 := hJ7.ext hx
  have hB7 := hB7.extB hx
  have hI8 := hI8.ext hx
  have hJ8 := hJ8.ext hx
  have hB8 := hB8.extB hx
  have hE := hE.trans hx
  clear hx
  go_wp2_with fail
  (with_reducible refine (sm2 _ hS3 hS4).mono ?_)
  rintro e w12 ⟨rfl, hx⟩
  have hk := hk.ext hx
  have hn := hn.ext hx
  have hb := hb.ext hx
  have hS1 := hS1.ext hx
  have hS2 := hS2.ext hx
  have hS3 := hS3.ext hx
  have hS4 := hS4.ext hx
  have hI5 := hI5.ext hx
  have hB5 := hB5.extB hx
  have hI6 := hI6.ext hx
  have hB6 := hB6.extB hx
  have hI7 := hI7.ext hx
  have hJ7 := hJ7.ext hx
  have hB7 := hB7.extB hx
  have hI8 := hI8.ext hx
  have hJ8 := hJ8.ext hx
  have hB8 := hB8.extB hx
  have hE := hE.trans hx
  clear hx
  haveI := hB5.blt
  haveI := hB6.blt
  haveI := hB7.blt
  haveI := hB8.blt
  go_wp2_with (first
    | (refine wpList_wanted (by simp [Region.wanted, yielded, Act.put]) ?_; (refine wpList_load_arr (RP16) rfl _ rfl (g5) (0) rfl ([.int .i64 R3.1.h.leap, .int .i64 R3.1.h.ver, .int .i64 R3.1.h.mode, .int .i64 R3.1.h.strat, .int .i64 R3.1.h.poll, .int .i64 R3.1.h.prec, .int .u32 (n32 R3.1.h.rd), .int .u32 (n32 R3.1.h.rp), .int .u32 (n32 R3.1.h.id), .int .u64 (n64 R3.1.h.ref), .int .u64 (n64 R3.1.h.org), .int .u64 (n64 R3.1.h.rcv), .int .u64 (n64 R3.1.h.tx), .slice p5 R3.1.plain.length d5, .slice none 0 0, .bool false]) (hB5.rd) (rfl) ?_))
    | (refine wpList_wanted (by simp [Region.wanted, yielded, Act.put]) ?_; (refine wpList_load_arr (RP16) rfl _ rfl (g6) (0) rfl ([.int .i64 R3.1.h.leap, .int .i64 R3.1.h.ver, .int .i64 R3.1.h.mode, .int .i64 R3.1.h.strat, .int .i64 R3.1.h.poll, .int .i64 R3.1.h.prec, .int .u32 (n32 R3.1.h.rd), .int .u32 (n32 R3.1.h.rp), .int .u32 (n32 R3.1.h.id), .int .u64 (n64 R3.1.h.ref), .int .u64 (n64 R3.1.h.org), .int .u64 (n64 R3.1.h.rcv), .int .u64 (n64 R3.1.h.tx), .slice p6 R3.1.plain.length d6, .slice none 0 0, .bool false]) (hB6.rd) (rfl) ?_))
    | fail)
  (with_reducible refine (same18_any R3.1.h p5 none p6 none R3.1.plain.length d5 0 0 d6 0 R3.1.plain [] false _ hI5 hI6 (Ib.nil _ _) (Ib.nil _ _) s24a (by omega)).mono ?_)
  rintro e w13 ⟨rfl, hx⟩
  have hk := hk.ext hx
  have hn := hn.ext hx
  have hb := hb.ext hx
  have hS1 := hS1.ext hx
  have hS2 := hS2.ext hx
  have hS3 := hS3.ext hx
  have hS4 := hS4.ext hx
  have hI5 := hI5.ext hx
  have hB5 := hB5.extB hx
  have hI6 := hI6.ext hx
  have hB6 := hB6.extB hx
  have hI7 := hI7.ext hx
  have hJ7 := hJ7.ext hx
  have hB7 := hB7.extB hx
  have hI8 := hI8.ext hx
  have hJ8 := hJ8.ext hx
  have hB8 := hB8.extB hx
  have hE := hE.trans hx
  clear hx
  haveI := hB7.blt
  haveI := hB8.blt
  go_wp2_with (first
    | (refine wpList_wanted (by simp [Region.wanted, yielded, Act.put]) ?_; (refine wpList_load_arr (RP16) rfl _ rfl (g7) (0) rfl ([.int .i64 R4.1.h.leap, .int .i64 R4.1.h.ver, .int .i64 R4.1.h.mode, .int .i64 R4.1.h.strat, .int .i64 R4.1.h.poll, .int .i64 R4.1.h.prec, .int .u32 (n32 R4.1.h.rd), .int .u32 (n32 R4.1.h.rp), .int .u32 (n32 R4.1.h.id), .int .u64 (n64 R4.1.h.ref), .int .u64 (n64 R4.1.h.org), .int .u64 (n64 R4.1.h.rcv), .int .u64 (n64 R4.1.h.tx), .slice p7 R4.1.plain.length d7, .slice t7 R4.1.secret.length v7, .bool R4.1.guarded]) (hB7.rd) (rfl) ?_))
    | (refine wpList_wanted (by simp [Region.wanted, yielded, Act.put]) ?_; (refine wpList_load_arr (RP16) rfl _ rfl (g8) (0) rfl ([.int .i64 R4.1.h.leap, .int .i64 R4.1.h.ver, .int .i64 R4.1.h.mode, .int .i64 R4.1.h.strat, .int .i64 R4.1.h.poll, .int .i64 R4.1.h.prec, .int .u32 (n32 R4.1.h.rd), .int .u32 (n32 R4.1.h.rp), .int .u32 (n32 R4.1.h.id), .int .u64 (n64 R4.1.h.ref), .int .u64 (n64 R4.1.h.org), .int .u64 (n64 R4.1.h.rcv), .int .u64 (n64 R4.1.h.tx), .slice p8 R4.1.plain.length d8, .slice t8 R4.1.secret.length v8, .bool R4.1.guarded]) (hB8.rd) (rfl) ?_))
    | fail)
  (with_reducible refine (same18_any R4.1.h p7 t7 p8 t8 R4.1.plain.length d7 R4.1.secret.length v7 d8 v8 R4.1.plain R4.1.secret R4.1.guarded _ hI7 hI8 hJ7 hJ8 s24b s24c).mono ?_)
  rintro e w14 ⟨rfl, hx⟩
  go_wp2_with fail
  go_ret
  exact ⟨rfl, hE.trans hx⟩
end Go.Proofs.YtdmifbfgeeldnaaGreat
