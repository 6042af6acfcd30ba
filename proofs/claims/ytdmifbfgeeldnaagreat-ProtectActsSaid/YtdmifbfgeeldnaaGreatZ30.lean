/- Lemmas of this claim, several texts joined. -/
import Derived.Test.YtdmifbfgeeldnaaGreatZ6
import Derived.Test.YtdmifbfgeeldnaaGreatZ9
import Derived.Test.YtdmifbfgeeldnaaGreatZ10
import Derived.Test.YtdmifbfgeeldnaaGreatZ24
import Derived.Test.YtdmifbfgeeldnaaGreatZ26
import Derived.Test.YtdmifbfgeeldnaaGreatZ29
import Derived.Test.YtdmifbfgeeldnaaGreatZ31
import Derived.Test.YtdmifbfgeeldnaaGreatZ32
set_option linter.unusedVariables false
set_option linter.unusedSimpArgs false
/- The walks of layer 17: size, Size, Find. -/
namespace Go.Proofs.YtdmifbfgeeldnaaGreat
open Go.RowKit Go.Sec Go.Oct Go.Pkt BigFrame

theorem RF2 : RowT Tryz.prog 66 2 := ⟨⟨_, Tryz.underlying66, rfl⟩, by kernel_rfl, ⟨_, Tryz.zeroValue66, by kernel_rfl⟩⟩

set_option maxRecDepth 100000 in
theorem xsize_any (n : Nat) {nI : Int} (hn : nI = (n : Int)) (w : World) (h : n ≤ 1000000000) :
    Calls Tryz.prog 128 #[.int .i64 nI] w fun e w' => e = .returned (.int .i64 (szN n : Nat)) ∧ Ext w w' := by
  subst hn
  have e : max (16 : Int) ((4 + (n : Int) + 4 - 1) / 4 * 4) = (szN n : Nat) := by unfold szN; omega
  go_enter Tryz.func128, Tryz.ntmps128
  go_wp2
  go_ret
  exact ⟨by rw [← e]; rfl, (by repeat (first | (with_reducible first | exact Ext.refl _ | assumption | apply Ext.alloc | apply Ext.ext | apply Ext.drew | refine Ext.setCell ?_ ?_ _) | (focus (simp [go_sem]; done))))⟩

set_option maxRecDepth 100000 in
theorem xSize_any (f : Fld) (a : Option Addr) (c : Nat) (w : World) (h : f.2.length ≤ 1000000000) :
    Calls Tryz.prog 105 #[.agg #[.int .i64 f.1, .slice a f.2.length c]] w fun e w' => e = .returned (.tuple #[.int .i64 (sizE f).1, .int .i64 (sizE f).2]) ∧ Ext w w' := by
  obtain ⟨t, l⟩ := f
  simp only at h ⊢
  have hs := fun W => xsize_any l.length rfl W h
  by_cases h1 : t < 0
  · have er := Lib.hid (show sizE (t, l) = (0, 4) by unfold sizE; rw [if_pos (.inl h1)])
    go_enter Tryz.func105, Tryz.ntmps105
    go_wp2_with fail
    go_ret2
    exact ⟨by rw [er.out]; rfl, (by repeat (first | (with_reducible first | exact Ext.refl _ | assumption | apply Ext.alloc | apply Ext.ext | apply Ext.drew | refine Ext.setCell ?_ ?_ _) | (focus (simp [go_sem]; done))))⟩
  · by_cases h2 : 65535 < t
    · have er := Lib.hid (show sizE (t, l) = (0, 4) by unfold sizE; rw [if_pos (.inr h2)])
      go_enter Tryz.func105, Tryz.ntmps105
      go_wp2_with fail
      go_ret2
      exact ⟨by rw [er.out]; rfl, (by repeat (first | (with_reducible first | exact Ext.refl _ | assumption | apply Ext.alloc | apply Ext.ext | apply Ext.drew | refine Ext.setCell ?_ ?_ _) | (focus (simp [go_sem]; done))))⟩
    · by_cases h3 : 1232 < szN l.length
      · have er := Lib.hid (show sizE (t, l) = (0, 2) by unfold sizE; rw [if_neg (by simp; omega), if_pos h3])
        have i3 : (1232 : Int) < ((szN l.length : Nat) : Int) := by omega
        generalize szN l.length = z at *
        go_enter Tryz.func105, Tryz.ntmps105
        go_wp2_with (first
          | (go_at_call 128; refine (hs _).mono ?_; rintro e w1 ⟨rfl, hxq⟩; obtain ⟨xq, rfl⟩ := hxq.out; clear hxq)
          | fail)
        go_ret2
        exact ⟨by rw [er.out]; rfl, (by repeat (first | (with_reducible first | exact Ext.refl _ | assumption | apply Ext.alloc | apply Ext.ext | apply Ext.drew | refine Ext.setCell ?_ ?_ _) | (focus (simp [go_sem]; done))))⟩
      · have er := Lib.hid (show sizE (t, l) = (((szN l.length : Nat) : Int), 0) by unfold sizE; rw [if_neg (by simp; omega), if_neg h3])
        have i3 : ¬ (1232 : Int) < ((szN l.length : Nat) : Int) := by omega
        generalize szN l.length = z at *
        go_enter Tryz.func105, Tryz.ntmps105
        go_wp2_with (first
          | (go_at_call 128; refine (hs _).mono ?_; rintro e w1 ⟨rfl, hxq⟩; obtain ⟨xq, rfl⟩ := hxq.out; clear hxq)
          | fail)
        go_ret2
        exact ⟨by rw [er.out]; rfl, (by repeat (first | (with_reducible first | exact Ext.refl _ | assumption | apply Ext.alloc | apply Ext.ext | apply Ext.drew | refine Ext.setCell ?_ ?_ _) | (focus (simp [go_sem]; done))))⟩
end Go.Proofs.YtdmifbfgeeldnaaGreat

/- The walks of layer 17: Find, the first field of a type. -/
namespace Go.Pkt
open Go.Sec Go.RowKit
theorem rd2 {w : World} {b o : Nat} {v u : Value} (hb : b < w.heap.size) (h1 : w.cell? ⟨b, o, none⟩ = some v) (h2 : w.cell? ⟨b, o + 1, none⟩ = some u) : Rd w (some ⟨b, o, none⟩) [v, u] :=
  .inr ⟨b, o, rfl, hb, fun k x hk => by
    match k, hk with
    | 0, hk => simp at hk; subst hk; exact h1
    | 1, hk => simp at hk; subst hk; exact h2⟩
theorem getD_at {L : List Fld} {k : Nat} {x : Fld} (h : L[k]? = some x) : L.getD k (0, []) = x := by rw [List.getD_eq_getElem?_getD, h]; rfl
end Go.Pkt
namespace Go.Proofs.YtdmifbfgeeldnaaGreat
open Go.RowKit Go.Sec Go.Oct Go.Pkt BigFrame

set_option maxRecDepth 100000 in
theorem pauth1_any (t : Int) (g : Option Addr) (m c : Nat) (w : World) :
    Calls Tryz.prog 47 #[.agg #[.int .i64 t, .slice g m c]] w fun e w' => e = .returned (.bool (t == 1028)) ∧ Ext w w' := by
  go_enter Tryz.func47, Tryz.ntmps47
  go_wp2
  go_ret
  exact ⟨rfl, (by repeat (first | (with_reducible first | exact Ext.refl _ | assumption | apply Ext.alloc | apply Ext.ext | apply Ext.drew | refine Ext.setCell ?_ ?_ _) | (focus (simp [go_sem]; done))))⟩

def firstZ (k : Int) (L : List Fld) : Int := match firstI k L with | none => -1 | some i => i
set_option maxRecDepth 100000 in
set_option maxHeartbeats 4000000 in
theorem xfirst_any (a : Option Addr) (n c : Nat) (L : List Fld) (w : World) (hI : Ib w a n L) (hn : n ≤ 1000000) :
    Calls Tryz.prog 46 #[.slice a n c, .func (.func 47) #[] #[]] w fun e w' => e = .returned (.int .i64 (firstZ 1028 L)) ∧ Ext w w' := by
  have hl := hI.len
  go_enter Tryz.func46, Tryz.ntmps46
  go_wp2_with fail
  go_loopw [5, 8] (fun _ v8 wr => ∃ i : Nat, i ≤ n ∧ v8 = .int .i64 i ∧ Hid (ixs 1028 L i = []) ∧ Ext w wr) (fun _ v8 _ => n - (intOf v8).toNat)
  case atStart => exact ⟨0, by omega, rfl, Lib.hid rfl, Ext.refl _⟩
  case round =>
    obtain ⟨i, hi, rfl, hm, hx⟩ := hrel
    by_cases hlt : i < n
    · obtain ⟨x, hxi⟩ : ∃ x, L[i]? = some x := ⟨_, List.getElem?_eq_getElem (by omega)⟩
      obtain ⟨b0, o0, g', c', rfl, hb0, hc0, hc1, hSk, hck⟩ := (hI.ext hx).at i hlt _ hxi
      have hrd := rd2 hb0.lt hc0 hc1
      have i0 : (0 : Int) ≤ (i : Int) := by omega
      have i1 : (i : Int) < (n : Int) := by omega
      have hat := Lib.hid (getD_at hxi)
      have hlL := Lib.hid (show i < L.length by omega)
      haveI := hb0
      go_wp2_with (first
        | (refine wpList_load_arr (RF2) rfl _ rfl (b0) (o0 + i * 2) rfl ([.int .i64 x.1, .slice g' x.2.length c']) (hrd) (rfl) ?_)
        | fail)
      (with_reducible refine (pauth1_any _ _ _ _ _).mono ?_); rintro e w1 ⟨rfl, hx1⟩
      by_cases hid : x.1 = 1028
      · have hb : (x.1 == 1028) = true := by simpa using hid
        have HR := Lib.hid (show firstZ 1028 L = (i : Int) by unfold firstZ; rw [firstI_some hlL.out hm.out (by rw [hat.out]; exact hid)])
        clear hid
        go_wp2_with fail
        go_ret
        exact ⟨by rw [HR.out]; rfl, hx.trans hx1⟩
      · have hb : (x.1 == 1028) = false := by simpa using hid
        have hm2 := Lib.hid (show ixs 1028 L (i + 1) = [] by rw [ixs_no (by rw [hat.out]; exact hid)]; exact hm.out)
        clear hid
        go_wp2_with fail
        go_roundw
        case rel => exact ⟨i + 1, by omega, by go_num, hm2, hx.trans hx1⟩
        case measure => simp [intOf]; omega
    · obtain rfl : i = n := by omega
      have HR := Lib.hid (show firstZ 1028 L = -1 by unfold firstZ; rw [firstI_none (by rw [hl]; exact hm.out)])
      go_wp2_with fail
      go_ret
      exact ⟨by rw [HR.out]; rfl, hx⟩

theorem infoI : (Tryz.prog.info? 3).map (fun i => (i.zero, i.size, i.bytes)) = some (some (.int .i64 0), 1, 8) := by kernel_rfl
def OwnZ (w : World) (base : Nat) (a : Option Addr) (n c : Nat) (l : List Nat) : Prop := l.length = n ∧ w.ownsRow base 3 1 (.slice a n c) n (l.map fun i : Nat => Value.int .i64 i)
def NatsOut (l : List Nat) (w : World) (e : Ending) (w' : World) : Prop := ∃ a c, e = .returned (.slice a l.length c) ∧ OwnZ w' w.heap.size a l.length c l ∧ Ext w w'

set_option maxRecDepth 100000 in
set_option maxHeartbeats 4000000 in
theorem xfind_any (k : Int) (a : Option Addr) (n c : Nat) (L : List Fld) (w : World) (hI : Ib w a n L) (hn : n ≤ 1000000) :
    Calls Tryz.prog 61 #[.slice a n c, .int .i64 k] w (NatsOut (ixs k L L.length) w) := by
  have hl := hI.len
  obtain ⟨iI, hi1, hi2, hi3, hi4⟩ := info_parts infoI
  rw [hl]
  go_enter Tryz.func61, Tryz.ntmps61
  go_wp2_with fail
  go_loopw [5, 6, 7, 10] (fun v5 _ _ v10 wr => ∃ (i : Nat) (sa : Option Addr) (sc : Nat), i ≤ n ∧ v10 = .int .i64 i ∧ v5 = .slice sa (ixs k L i).length sc ∧ OwnZ wr w.heap.size sa (ixs k L i).length sc (ixs k L i) ∧ Ext w wr) (fun _ _ _ v10 _ => n - (intOf v10).toNat)
  case atStart => exact ⟨0, none, 0, by omega, rfl, rfl, ⟨rfl, World.ownsRow_nil _ _ _ _⟩, Ext.refl _⟩
  case round =>
    obtain ⟨i, sa, sc, hi, rfl, rfl, hO, hx⟩ := hrel
    by_cases hlt : i < n
    · obtain ⟨x, hxi⟩ : ∃ x, L[i]? = some x := ⟨_, List.getElem?_eq_getElem (by omega)⟩
      obtain ⟨b0, o0, g', c', rfl, hb0, hc0, hc1, hSk, hck⟩ := (hI.ext hx).at i hlt _ hxi
      have hrd := rd2 hb0.lt hc0 hc1
      have i0 : (0 : Int) ≤ (i : Int) := by omega
      have i1 : (i : Int) < (n : Int) := by omega
      have hat := Lib.hid (getD_at hxi)
      have hil := ixs_length k L i
      haveI := hb0
      by_cases hid : x.1 = k
      · have hb : (x.1 == k) = true := by simpa using hid
        have hy := Lib.hid (show ixs k L (i + 1) = ixs k L i ++ [i] from ixs_yes (by rw [hat.out]; exact hid))
        clear hid
        go_wp2_with (first
          | (refine wpList_load_arr (RF2) rfl _ rfl (b0) (o0 + i * 2) rfl ([.int .i64 x.1, .slice g' x.2.length c']) (hrd) (rfl) ?_)
          | (at_builtin; refine wpList_append_new rfl _ _ 76 rfl w.heap.size 3 iI (.int .i64 0) 1 8 Tryz.underlying76 hi1 hi2 hi3 hi4 rfl (by decide) _ _ _ (own_ext hO.2 (by repeat (first | (with_reducible first | exact Ext.refl _ | assumption | apply Ext.alloc | apply Ext.ext | apply Ext.drew | refine Ext.setCell ?_ ?_ _) | (focus (simp [go_sem]; done))))) 1 1 rfl (by simp [go_sem]) rfl (by simp [Value.oneCell']) (by unfold maxLen; omega) (by omega) (Below.size (B := w.heap.size) (by repeat (first | (with_reducible first | exact Ext.refl _ | assumption | apply Ext.alloc | apply Ext.ext | apply Ext.drew | refine Ext.setCell ?_ ?_ _) | (focus (simp [go_sem]; done))))) ?_; intro sa2 sc2 w2 hO2 hB2)
          | fail)
        go_roundw
        case rel => exact ⟨i + 1, sa2, sc2, by omega, by go_num, by rw [hy.out, List.length_append]; rfl, by rw [hy.out]; exact ⟨by simp, by simpa using hO2⟩, Below.trans (hx.trans (by repeat (first | (with_reducible first | exact Ext.refl _ | assumption | apply Ext.alloc | apply Ext.ext | apply Ext.drew | refine Ext.setCell ?_ ?_ _) | (focus (simp [go_sem]; done))))) hB2⟩
        case measure => simp [intOf]; omega
      · have hb : (x.1 == k) = false := by simpa using hid
        have hy := Lib.hid (show ixs k L (i + 1) = ixs k L i from ixs_no (by rw [hat.out]; exact hid))
        clear hid
        go_wp2_with (first
          | (refine wpList_load_arr (RF2) rfl _ rfl (b0) (o0 + i * 2) rfl ([.int .i64 x.1, .slice g' x.2.length c']) (hrd) (rfl) ?_)
          | fail)
        go_roundw
        case rel => exact ⟨i + 1, sa, sc, by omega, by go_num, by rw [hy.out], by rw [hy.out]; exact ⟨hO.1, own_ext hO.2 (by repeat (first | (with_reducible first | exact Ext.refl _ | assumption | apply Ext.alloc | apply Ext.ext | apply Ext.drew | refine Ext.setCell ?_ ?_ _) | (focus (simp [go_sem]; done))))⟩, hx.trans (by repeat (first | (with_reducible first | exact Ext.refl _ | assumption | apply Ext.alloc | apply Ext.ext | apply Ext.drew | refine Ext.setCell ?_ ?_ _) | (focus (simp [go_sem]; done))))⟩
        case measure => simp [intOf]; omega
    · obtain rfl : i = n := by omega
      go_wp2_with fail
      go_ret
      exact ⟨sa, sc, rfl, hO, hx⟩
end Go.Proofs.YtdmifbfgeeldnaaGreat

/- The walks of layer 17: scan, Decode. -/
namespace Go.Pkt
open Go.Sec Go.RowKit
theorem sl_at {w : World} {b0 o0 n ca i : Nat} {l : List UInt8} (h : Sl w (some ⟨b0, o0, none⟩) n l) (hca : n ≤ ca) (hi : i < n) : Sl w (some ⟨b0, o0 + i, none⟩) (n - i) (l.drop i) := by
  have := h.drop ca i hca
  unfold sAdr at this
  rw [if_neg (by omega)] at this
  simpa [addr_add] using this
theorem decR_err (m : Nat) (l : List UInt8) (h : (decR m l).2 ≠ 0) : (decR m l).1 = [] := by
  by_cases h0 : l = []
  · subst h0; rw [decR_nil] at h; exact absurd rfl h
  · by_cases hs : stepE l = 0
    · cases m with
      | zero => rw [decR_full l h0 hs]
      | succ m =>
        rw [decR_step m l h0 hs] at h ⊢
        unfold consR at h ⊢
        split
        · rename_i h1; rw [if_pos h1] at h; exact absurd rfl h
        · rfl
    · rw [decR_bad m l h0 hs]
theorem preR_nil (m : Nat) (l : List UInt8) : preR [] (decR m l) = decR m l := by
  unfold preR
  split
  · rename_i h; rw [List.nil_append, ← h]
  · rename_i h; rw [← decR_err m l h]
end Go.Pkt
namespace Go.Proofs.YtdmifbfgeeldnaaGreat
open Go.RowKit Go.Sec Go.Oct Go.Pkt BigFrame

theorem infoF : (Tryz.prog.info? 66).map (fun i => (i.zero, i.size, i.bytes)) = some (some (.agg #[.int .i64 0, .slice none 0 0]), 2, 32) := by kernel_rfl
theorem VF : SI Tryz.prog 29 66 := ⟨Tryz.underlying29, by obtain ⟨i, h1, h2, h3, h4⟩ := info_parts infoF; exact ⟨i, _, h1, h2, h3, h4, rfl⟩⟩
def FldAt (base gB : Nat) (A : List Fld) (w : World) : Prop := ∃ sa sc, base ≤ w.heap.size ∧ Blk w gB 29 [.slice sa A.length sc] ∧ OwnI 66 w base sa A.length sc A
theorem FldAt.ext {base gB : Nat} {A : List Fld} {w w' : World} (h : FldAt base gB A w) (hx : Ext w w') : FldAt base gB A w' := by
  obtain ⟨sa, sc, h1, h2, h3⟩ := h
  exact ⟨sa, sc, Nat.le_trans h1 hx.size, h2.extB hx, h3.ext hx⟩

set_option maxRecDepth 100000 in
set_option maxHeartbeats 4000000 in
theorem xd1_any (base gB : Nat) (A : List Fld) (at0 t : Int) (g : Option Addr) (m c : Nat) (l : List UInt8) (w : World) (hF : FldAt base gB A w) (hS : Sl w g m l) (hc : m ≤ c) (hi : InT 66 w base g m) (hk : A.length ≤ 1000000) (hg : base ≤ gB) :
    Calls Tryz.prog 99 #[.int .i64 at0, .agg #[.int .i64 t, .slice g m c], .pointer (some ⟨gB, 0, none⟩)] w fun e w' => e = .returned (.tuple #[]) ∧ FldAt base gB (A ++ [(t, l)]) w' ∧ Below base w w' := by
  obtain ⟨sa, sc, hb, hB, hO⟩ := hF
  have f0 := hB.cell? 0 rfl
  haveI := hB.blt
  go_enter Tryz.func99, Tryz.ntmps99
  go_wp2_with (first
    | (at_builtin; refine wpList_append_i VF rfl _ _ rfl base _ A.length sc _ rfl (w.heap.size + 1) 1 t g m c l (by simp [go_sem]) (hO.ext (by repeat (first | (with_reducible first | exact Ext.refl _ | assumption | apply Ext.alloc | apply Ext.ext | apply Ext.drew | refine Ext.setCell ?_ ?_ _) | (focus (simp [go_sem]; done))))) (Blk.rd (by repeat (first | assumption | (refine Blk.newAt _ _ _ _ ?_; first | rfl | (simp only [World.size_alloc]; done)) | apply Blk.ext | apply Blk.alloc | (refine Blk.other ?_ ?_ _; rotate_left; (simp <;> omega))))) (hS.ext (by repeat (first | (with_reducible first | exact Ext.refl _ | assumption | apply Ext.alloc | apply Ext.ext | apply Ext.drew | refine Ext.setCell ?_ ?_ _) | (focus (simp [go_sem]; done))))) hc (hi.ext (by repeat (first | (with_reducible first | exact Ext.refl _ | assumption | apply Ext.alloc | apply Ext.ext | apply Ext.drew | refine Ext.setCell ?_ ?_ _) | (focus (simp [go_sem]; done))))) hk (by simp; omega) ?_; intro sa' sc' w6 hO6 hg6 hb6; have hB6 := (hB.extB (show Ext w ((w.alloc (.cells #[.int .i64 t, .slice g m c] 66)).alloc (.cells #[.int .i64 t, .slice g m c] 66)) from (by repeat (first | (with_reducible first | exact Ext.refl _ | assumption | apply Ext.alloc | apply Ext.ext | apply Ext.drew | refine Ext.setCell ?_ ?_ _) | (focus (simp [go_sem]; done)))))).grown hg6 (hO.blk hB (by decide)); have f6 := hB6.cell? 0 rfl; have z6 := hB6.free 0)
    | fail)
  go_end0
  have hM : Mut gB w6 (w6.setCell ⟨gB, 0, none⟩ (.slice sa' (A.length + 1) sc')) := (Mut.refl _ _).setCell 0 _
  have hE : Ext w ((w.alloc (.cells #[.int .i64 t, .slice g m c] 66)).alloc (.cells #[.int .i64 t, .slice g m c] 66)) := (by repeat (first | (with_reducible first | exact Ext.refl _ | assumption | apply Ext.alloc | apply Ext.ext | apply Ext.drew | refine Ext.setCell ?_ ?_ _) | (focus (simp [go_sem]; done))))
  have hb := Nat.le_trans hb hE.size
  refine ⟨rfl, ⟨sa', sc', Nat.le_trans (Nat.le_trans hb hb6.size) hM.size, ?_, ?_⟩, Below.trans (Below.trans (hE.mono (by have := hE.size; omega)) hb6) (hM.below hg (Nat.le_trans hb hb6.size))⟩
  · rw [List.length_append]; exact hB6.set 0 _
  · rw [List.length_append]; exact hO6.mut hB6 (by decide) (by simp) hM

theorem FldAt.below {base gB : Nat} {A : List Fld} {w : World} (h : FldAt base gB A w) : base ≤ w.heap.size := by obtain ⟨_, _, h1, _⟩ := h; exact h1

def ScanOut (base gB : Nat) (r : List Fld × Int) (w : World) (e : Ending) (w' : World) : Prop := e = .returned (.int .i64 r.2) ∧ (r.2 = 0 → FldAt base gB r.1 w') ∧ Below base w w'
theorem sizeAt_get (l : List UInt8) : n64 (getL ((l.drop 2).take 2)) = ((sizeAt l : Nat) : Int) := by
  unfold n64 sizeAt; rw [getL_nat _ (by simp; omega)]
theorem typeAt_get (l : List UInt8) : n64 (getL (l.take 2)) = ((getN (l.take 2) : Nat) : Int) := by
  unfold n64; rw [getL_nat _ (by simp; omega)]
theorem getN_two (l : List UInt8) : getN (l.take 2) < 65536 := by
  have h1 := getN_lt (l.take 2)
  have h2 : (256 : Nat) ^ (l.take 2).length ≤ 256 ^ 2 := Nat.pow_le_pow_right (by omega) (by simp; omega)
  omega
theorem sizeAt_lt (l : List UInt8) : sizeAt l < 65536 := getN_two (l.drop 2)

set_option maxRecDepth 100000 in
set_option maxHeartbeats 4000000 in
theorem xscan_any (base gB : Nat) (a : Option Addr) (n c : Nat) (b : List UInt8) (w : World) (hS : Sl w a n b) (hc : n ≤ c) (hn : n ≤ 1000000) (hF : FldAt base gB [] w) (hg : base ≤ gB) (hlo : ∀ W, Below base w W → Sl W a n b) :
    Calls Tryz.prog 98 #[.slice a n c, .func (.func 99) #[] #[.pointer (some ⟨gB, 0, none⟩)]] w (ScanOut base gB (decF b) w) := by
  have hl := hS.len
  by_cases h1 : 1232 < n
  · have er := Lib.hid (show decF b = ([], 2) from if_pos (by omega))
    have i1 : (1232 : Int) < (n : Int) := by omega
    clear hl
    go_enter Tryz.func98, Tryz.ntmps98
    go_wp2_with fail
    go_ret
    rw [er.out]
    exact ⟨rfl, fun h => (by cases h), Below.refl _ _⟩
  · have i1 : ¬ (1232 : Int) < (n : Int) := by omega
    obtain ⟨r, hr⟩ : ∃ r, decF b = r := ⟨_, rfl⟩
    have hr24 := Lib.hid (show decR 24 b = r by rw [← hr]; exact (if_neg (by omega)).symm)
    rw [hr]
    clear hr
    go_enter Tryz.func98, Tryz.ntmps98
    go_wp2_with fail
    go_loopw [5, 6, 7, 8] (fun v5 v6 _ _ wr => ∃ (o : Nat) (A : List Fld), o ≤ n ∧ A.length ≤ 24 ∧ v5 = .int .i64 o ∧ v6 = .int .i64 A.length ∧ Hid (r = preR A (decR (24 - A.length) (b.drop o))) ∧ FldAt base gB A wr ∧ Below base w wr) (fun v5 _ _ _ _ => n - (intOf v5).toNat)
    case atStart => exact ⟨0, [], by omega, by simp, rfl, rfl, Lib.hid (by rw [← hr24.out]; exact (preR_nil _ _).symm), hF, Below.refl _ _⟩
    case round =>
      obtain ⟨o, A, ho, hA, rfl, rfl, hm, hF, hE⟩ := hrel
      have hSr := hlo _ hE
      by_cases hlt : o < n
      · obtain ⟨R, hR⟩ : ∃ R, b.drop o = R := ⟨_, rfl⟩
        have hRl : R.length = n - o := by rw [← hR, List.length_drop, hl]
        have hSR := hSr.drop c o hc
        rw [hR] at hSR hm
        obtain ⟨b0, o0, rfl, -, -⟩ := hSr.at 0 (by omega)
        have hAd : sAdr (some ⟨b0, o0, none⟩) c o 1 = some ⟨b0, o0 + o, none⟩ := by unfold sAdr; rw [if_neg (by omega)]; simp [Addr.add]
        rw [hAd] at hSR
        clear hAd
        have hne : R ≠ [] := fun h => by rw [h] at hRl; simp at hRl; omega
        have i2 : (o : Int) < (n : Int) := by omega
        have i3 : (o : Int) ≤ (c : Int) := by omega
        have i5 : (2 : Int) ≤ ((c - o : Nat) : Int) ∨ n - o < 4 := by omega
        by_cases h4 : n - o < 4
        · have i4 : ((n - o : Nat) : Int) < 4 := by omega
          have er := Lib.hid (show r = ([], 1) by
            have hs : stepE R = 1 := if_pos (by omega)
            rw [hm.out, decR_bad _ R hne (by rw [hs]; decide), hs]; rfl)
          clear i5
          go_wp2_with fail
          go_ret
          rw [er.out]
          exact ⟨rfl, fun h => (by cases h), hE⟩
        · have i4 : ¬ ((n - o : Nat) : Int) < 4 := by omega
          have i6 : (4 : Int) ≤ ((c - o : Nat) : Int) := by omega
          have i7 : (4 : Int) ≤ ((n - o : Nat) : Int) := by omega
          clear i5
          have hS2 := (sl_at hSR (ca := c - o) (by omega) (i := 2) (by omega)).take 2 (by omega)
          have hget := fun W H => oget_any (some ⟨b0, o0 + o + 2, none⟩) 2 (c - o - 2) ((R.drop 2).take 2) W H (by omega) (by omega)
          rw [sizeAt_get] at hget
          obtain ⟨S, hSz⟩ : ∃ S, sizeAt R = S := ⟨_, rfl⟩
          have hSlt := sizeAt_lt R
          have hst : 4 ≤ R.length := by omega
          rw [hSz] at hget hSlt
          by_cases hq : S % 4 = 0
          · by_cases hq2 : S < 16
            · have er := Lib.hid (show r = ([], 3) by
                have hs : stepE R = 3 := by unfold stepE; rw [if_neg (by omega), hSz, if_pos (by omega)]
                rw [hm.out, decR_bad _ R hne (by rw [hs]; decide), hs]; rfl)
              clear hSz hRl hl hR hst
              go_wp2_with fail
              (with_reducible refine (hget _ hS2).mono ?_)
              rintro e w5 ⟨rfl, hx5⟩
              go_wp2_with fail
              go_ret
              rw [er.out]
              exact ⟨rfl, fun h => (by cases h), Below.trans hE (hx5.mono hF.below)⟩
            · by_cases hq3 : n - o < S
              · have er := Lib.hid (show r = ([], 1) by
                  have hs : stepE R = 1 := by unfold stepE; rw [if_neg (by omega), hSz, if_neg (by omega), if_pos (by omega)]
                  rw [hm.out, decR_bad _ R hne (by rw [hs]; decide), hs]; rfl)
                have iq3 : ((n - o : Nat) : Int) < (S : Int) := by omega
                clear hSz hRl hl hR hst
                go_wp2_with fail
                (with_reducible refine (hget _ hS2).mono ?_)
                rintro e w5 ⟨rfl, hx5⟩
                go_wp2_with fail
                go_ret
                rw [er.out]
                exact ⟨rfl, fun h => (by cases h), Below.trans hE (hx5.mono hF.below)⟩
              · have hs : stepE R = 0 := by unfold stepE; rw [if_neg (by omega), hSz, if_neg (by omega), if_neg (by omega)]
                have iq3 : ¬ ((n - o : Nat) : Int) < (S : Int) := by omega
                by_cases hq4 : A.length = 24
                · have er := Lib.hid (show r = ([], 8) by
                    rw [hm.out, hq4, decR_full R hne hs]; rfl)
                  have iq4 : ((A.length : Nat) : Int) = 24 := by omega
                  clear hSz hRl hl hR hst
                  go_wp2_with fail
                  (with_reducible refine (hget _ hS2).mono ?_)
                  rintro e w5 ⟨rfl, hx5⟩
                  go_wp2_with fail
                  go_ret
                  rw [er.out]
                  exact ⟨rfl, fun h => (by cases h), Below.trans hE (hx5.mono hF.below)⟩
                · obtain ⟨q, hq5⟩ : ∃ q, 24 - A.length = q + 1 := ⟨24 - A.length - 1, by omega⟩
                  have hm2 := Lib.hid (show r = preR (A ++ [fldAt R]) (decR (24 - (A ++ [fldAt R]).length) (b.drop (o + S))) by
                    rw [hm.out, hq5, decR_step q R hne hs, preR_cons, hSz, List.length_append, ← hR, List.drop_drop]
                    congr 2
                    simp; omega)
                  have iq4 : ¬ ((A.length : Nat) : Int) = 24 := by omega
                  have hfl := (fldAt_len hs).1
                  have hfd : (fldAt R) = (((getN (R.take 2) : Nat) : Int), (R.take S).drop 4) := by unfold fldAt; rw [hSz]
                  have hS4 := (sl_at hSR (ca := c - o) (by omega) (i := 4) (by omega)).take (S - 4) (by omega)
                  rw [hSz] at hfl
                  have hl4 : ((R.take S).drop 4).length = S - 4 := by rw [hfd] at hfl; simp only at hfl; omega
                  rw [← List.drop_take] at hS4
                  have hSt := hSR.take 2 (by omega)
                  have hgt := fun W H => oget_any (some ⟨b0, o0 + o, none⟩) 2 (c - o) (R.take 2) W H (by omega) (by omega)
                  rw [typeAt_get] at hgt
                  have hTlt := getN_two R
                  rw [hfd] at hm2
                  clear hfd hfl
                  generalize getN (R.take 2) = T at *
                  generalize (R.take S).drop 4 = X at *
                  clear hSz hRl hl hR hst hs hq5
                  go_wp2_with fail
                  (with_reducible refine (hget _ hS2).mono ?_)
                  rintro e w5 ⟨rfl, hx5⟩
                  have hE5 := Below.trans hE (hx5.mono hF.below)
                  have hF5 := hF.ext hx5
                  have hSt := hSt.ext hx5
                  have hS4 := hS4.ext hx5
                  have j1 : (2 : Int) ≤ ((c - o : Nat) : Int) := by omega
                  have j2 : (4 : Int) ≤ (S : Int) := by omega
                  have j3 : (S : Int) ≤ ((c - o : Nat) : Int) := by omega
                  have j4 : ¬ c - o = 4 := by omega
                  go_wp2_with fail
                  refine wp_region_vague 11 [[], [], [], [2], [2, 3], [2, 3, 4], [], [], [6, 7], [2, 3, 4, 6, 7, 8], [2, 3, 4, 5, 6, 7, 8, 9], [0, 1, 2, 3, 4, 5, 6, 7, 8, 9, 10]] (by kernel_rfl) (by kernel_rfl) (by kernel_rfl) (by kernel_rfl) ?_; simp only [List.take_succ_cons, List.take_zero, List.drop_succ_cons, List.drop_zero, List.take_nil, List.drop_nil]
                  (repeat (apply VD_der; (case h => (intro us w' hx hf; obtain ⟨x, rfl⟩ := hx.out; refine ⟨rfl, ?_⟩; simp [go_sem, execOp, *]; (try simp (disch := omega) only [Go.IntWalk.i64_in, Go.IntWalk.rem_in, Go.IntWalk.wrap64_in]); rfl)); (try simp only [Act.put, List.setIfInBounds_toArray, List.set_cons_succ, List.set_cons_zero])))
                  (refine VD_vag (fun _ => .int .u64 ((T : Nat) : Int)) (fun _ _ => True) (fun _ _ _ _ _ => trivial) (fun us w' hx hf => ⟨rfl, ?_⟩) ?_; (unfold gives; simp [go_sem, execOp]; refine (hgt _ (hSt.ext hx)).mono ?_; rintro e w1 ⟨rfl, hx1⟩; first | exact ⟨rfl, hx1⟩ | simpa using hx1))
                  (repeat (apply VD_der; (case h => (intro us w' hx hf; obtain ⟨x, rfl⟩ := hx.out; refine ⟨rfl, ?_⟩; simp [go_sem, execOp, *]; (try simp (disch := omega) only [Go.IntWalk.i64_in, Go.IntWalk.rem_in, Go.IntWalk.wrap64_in]); rfl)); (try simp only [Act.put, List.setIfInBounds_toArray, List.set_cons_succ, List.set_cons_zero])))
                  (refine VD_vag (fun p => .slice (p 0).1 (S - 4) (p 0).2) (fun p w'' => Own w'' 0 (p 0).1 (S - 4) (p 0).2 (X)) (fun p w w' h hx => h.ext hx) (fun us w' hx hf => ⟨rfl, ?_⟩) ?_; (unfold gives; simp [go_sem, execOp]; exact vag_fresh (Nat.zero_le _) (clone_any (some ⟨b0, o0 + o + 4, none⟩) (S - 4) (c - o - 4) X _ (hS4.ext hx) (by omega))))
                  (repeat (apply VD_der; (case h => (intro us w' hx hf; obtain ⟨x, rfl⟩ := hx.out; refine ⟨rfl, ?_⟩; simp [go_sem, execOp, *]; (try simp (disch := omega) only [Go.IntWalk.i64_in, Go.IntWalk.rem_in, Go.IntWalk.wrap64_in]); rfl)); (try simp only [Act.put, List.setIfInBounds_toArray, List.set_cons_succ, List.set_cons_zero])))
                  (refine VD_nil ?_; intro us w' hx hf; obtain ⟨x, rfl⟩ := hx.out; (try simp only [Act.put, List.setIfInBounds_toArray, List.set_cons_succ, List.set_cons_zero, wpList_none]); (try simp only [List.mem_cons, List.not_mem_nil, or_false, forall_eq_or_imp, forall_eq, List.nil_append, List.cons_append, List.mem_append, false_or, true_and, and_true] at hf); (try simp only [Nat.reduceAdd, Nat.zero_add] at hf); (try simp only [Nat.reduceAdd, Nat.zero_add]))
                  obtain ⟨a6, ha6⟩ : ∃ a, (us 9 0).1 = a := ⟨_, rfl⟩
                  obtain ⟨c6, hc6⟩ : ∃ a, (us 9 0).2 = a := ⟨_, rfl⟩
                  have hO := hf
                  rw [ha6, hc6] at hO ⊢
                  clear ha6 hc6 hf
                  have hx6 : Ext w5 (w5.ext x) := Ext.of_ext _ _
                  have hF6 := hF5.ext hx6
                  have hE6 := Below.trans hE5 (hx6.mono hF5.below)
                  have hwT : IntKind.i64.wrap ((T : Nat) : Int) = (T : Int) := by rw [IntKind.wrap_i64]; omega
                  try rw [hwT]
                  clear hwT
                  generalize w5.ext x = w6 at *
                  go_wp2_with fail
                  (with_reducible refine (xd1_any base gB A _ _ _ _ _ X w6 hF6 hO.sl hO.le.1 (Own.inT hO (by decide)) (by omega) hg).mono ?_)
                  rintro e w7 ⟨rfl, hF7, hE7⟩
                  go_wp2_with fail
                  go_roundw
                  case rel => exact ⟨o + S, A ++ [(((T : Nat) : Int), X)], by omega, by simp; omega, by go_num, by simp, hm2, hF7, Below.trans hE6 hE7⟩
                  case measure => simp [intOf]; omega
          · have er := Lib.hid (show r = ([], 3) by
              have hs : stepE R = 3 := by unfold stepE; rw [if_neg (by omega), hSz, if_pos (by omega)]
              rw [hm.out, decR_bad _ R hne (by rw [hs]; decide), hs]; rfl)
            clear hSz hRl hl hR hst
            go_wp2_with fail
            (with_reducible refine (hget _ hS2).mono ?_)
            rintro e w5 ⟨rfl, hx5⟩
            go_wp2_with fail
            go_ret
            rw [er.out]
            exact ⟨rfl, fun h => (by cases h), Below.trans hE (hx5.mono hF.below)⟩
      · obtain rfl : o = n := by omega
        have i2 : ¬ (o : Int) < (o : Int) := by omega
        have er := Lib.hid (show r = (A, 0) by rw [hm.out, List.drop_of_length_le (by omega), decR_nil]; simp [preR])
        go_wp2_with fail
        go_ret
        rw [er.out]
        exact ⟨rfl, fun _ => hF, hE⟩

def FldsE (r : List Fld × Int) (w : World) (e : Ending) (w' : World) : Prop := ∃ a c, e = .returned (.tuple #[.slice a r.1.length c, .int .i64 r.2]) ∧ OwnI 66 w' w.heap.size a r.1.length c r.1 ∧ Ext w w'
theorem FldsE.err (w w' : World) (e : Int) (hx : Ext w w') : FldsE ([], e) w (.returned (.tuple #[.slice none 0 0, .int .i64 e])) w' := ⟨none, 0, rfl, OwnI.nil _ _ _, hx⟩
set_option maxRecDepth 100000 in
set_option maxHeartbeats 4000000 in
theorem xdecode_any (a : Option Addr) (n c : Nat) (b : List UInt8) (w : World) (hS : Sl w a n b) (hc : n ≤ c) (hn : n ≤ 1000000) :
    Calls Tryz.prog 50 #[.slice a n c] w (FldsE (decF b) w) := by
  have hl := hS.len
  go_enter Tryz.func50, Tryz.ntmps50
  go_wp2_with fail
  have hx0 : Ext w (w.alloc (.cells #[.slice none 0 0] 29)) := Ext.of_alloc _ _
  have hF : FldAt w.heap.size w.heap.size [] (w.alloc (.cells #[.slice none 0 0] 29)) := ⟨none, 0, hx0.size, Blk.new _ _ _, OwnI.nil _ _ _⟩
  (with_reducible refine (xscan_any w.heap.size w.heap.size a n c b _ (hS.ext hx0) hc hn hF (Nat.le_refl _) (fun W hW => hS.ext (Below.trans hx0 hW))).mono ?_)
  rintro e w1 ⟨rfl, hF1, hE1⟩
  have hE := Below.trans hx0 hE1
  by_cases h0 : (decF b).2 = 0
  · obtain ⟨sa, sc, _, hB, hO⟩ := hF1 h0
    have er := Lib.hid (show decF b = ((decF b).1, 0) by rw [← h0])
    rw [h0]
    clear hF1 h0
    haveI := hB.blt
    have f0 := hB.cell? 0 rfl
    go_wp2_with fail
    go_ret2
    rw [er.out]
    exact ⟨sa, sc, rfl, hO, hE⟩
  · have er := Lib.hid (show decF b = ([], (decF b).2) by
      have : (decF b).1 = [] := by
        unfold decF at h0 ⊢
        split
        · rfl
        · rename_i h1; rw [if_neg h1] at h0; exact decR_err _ _ h0
      rw [← this])
    have hne : ((decF b).2 != 0) = true := by rw [bne_iff_ne]; exact h0
    clear hF1 h0
    generalize (decF b).2 = v at *
    go_wp2_with fail
    go_ret2
    rw [er.out]
    exact FldsE.err _ _ _ hE
end Go.Proofs.YtdmifbfgeeldnaaGreat

/- The walks of layer 17: Encode. -/
namespace Go.Pkt
open Go.Sec Go.RowKit Go.Oct
theorem badE_app (A B : List Fld) (h : badE A = 0) : badE (A ++ B) = badE B := by
  induction A with
  | nil => rfl
  | cons f A ih =>
    rw [badE] at h
    split at h
    · rename_i h1; exact absurd h h1
    · rename_i h1
      rw [List.cons_append, badE, if_neg h1, ih h]
theorem badE_at {L : List Fld} {k : Nat} {x : Fld} (hx : L[k]? = some x) (h : badE (L.take k) = 0) (hx2 : (sizE x).2 ≠ 0) : badE L = (sizE x).2 := by
  obtain ⟨hk, rfl⟩ := List.getElem?_eq_some_iff.1 hx
  have : L = L.take k ++ (L[k] :: L.drop (k + 1)) := by rw [← List.drop_eq_getElem_cons hk, List.take_append_drop]
  have e := congrArg badE this
  rw [badE_app _ _ h, badE, if_pos hx2] at e
  exact e
theorem take_at {L : List Fld} {k : Nat} {x : Fld} (hx : L[k]? = some x) : L.take (k + 1) = L.take k ++ [x] := by
  obtain ⟨hk, rfl⟩ := List.getElem?_eq_some_iff.1 hx
  exact List.take_succ_eq_append_getElem hk
theorem sizE_ok {x : Fld} (h : (sizE x).2 = 0) : (0 ≤ x.1 ∧ x.1 ≤ 65535) ∧ szN x.2.length ≤ 1232 ∧ sizE x = (((szN x.2.length : Nat) : Int), 0) := by
  unfold sizE at h ⊢
  split at h
  · cases h
  · rename_i h1
    rw [if_neg h1]
    split at h
    · cases h
    · rename_i h2
      rw [if_neg h2]
      exact ⟨by omega, by omega, rfl⟩
theorem fld_fill (f : Fld) (N : Nat) (hN : szN f.2.length = N) :
    ((((List.replicate N (0 : UInt8)).take 0 ++ putL 2 (UInt64.ofNat f.1.toNat) ++ (List.replicate N (0 : UInt8)).drop (0 + 2)).take (0 + 2) ++ putL 2 (UInt64.ofNat N) ++ ((List.replicate N (0 : UInt8)).take 0 ++ putL 2 (UInt64.ofNat f.1.toNat) ++ (List.replicate N (0 : UInt8)).drop (0 + 2)).drop (0 + 2 + 2)).take (0 + 2 + 2) ++ f.2 ++
      (((List.replicate N (0 : UInt8)).take 0 ++ putL 2 (UInt64.ofNat f.1.toNat) ++ (List.replicate N (0 : UInt8)).drop (0 + 2)).take (0 + 2) ++ putL 2 (UInt64.ofNat N) ++ ((List.replicate N (0 : UInt8)).take 0 ++ putL 2 (UInt64.ofNat f.1.toNat) ++ (List.replicate N (0 : UInt8)).drop (0 + 2)).drop (0 + 2 + 2)).drop (0 + 2 + 2 + f.2.length)) = fldB f := by
  subst hN
  have hz := szN_ge f.2.length
  generalize hp : putL 2 (UInt64.ofNat f.1.toNat) = p
  generalize hq : putL 2 (UInt64.ofNat (szN f.2.length)) = q
  have lp : p.length = 2 := by rw [← hp]; exact putL_length _ _
  have lq : q.length = 2 := by rw [← hq]; exact putL_length _ _
  unfold fldB
  rw [hp, hq]
  generalize szN f.2.length = N at *
  have e1 : (List.replicate N (0 : UInt8)).take 0 ++ p ++ (List.replicate N (0 : UInt8)).drop (0 + 2) = p ++ List.replicate (N - 2) 0 := by simp
  rw [e1, take_app _ _ _ lp, show 0 + 2 + 2 = 2 + 2 from rfl, drop_more _ _ 2 2 lp, List.drop_replicate, List.append_assoc, ← List.append_assoc p q, take_app _ _ _ (by simp [lp, lq]), drop_more _ _ (2 + 2) f.2.length (by simp [lp, lq]), List.drop_replicate]
  rw [show N - 2 - 2 - f.2.length = N - 4 - f.2.length by omega]
end Go.Pkt
namespace Go.Sec
open Go.RowKit
theorem Sl.mutNe {w w' : World} {a : Option Addr} {n g : Nat} {l : List UInt8} (h : Sl w a n l) (hM : Mut g w w') (hne : n = 0 ∨ ∀ b o, a = some ⟨b, o, none⟩ → b ≠ g) : Sl w' a n l := by
  rcases hne with h0 | hne
  · subst h0
    have := List.eq_nil_of_length_eq_zero h.len
    subst this
    exact Sl.nil _ _
  · refine ⟨h.len, ?_⟩
    rcases h.by' with h1 | ⟨b, o, e, hb, hc⟩
    · exact .inl h1
    · subst e
      exact Rd.turn hM (.inr ⟨b, o, rfl, hb, hc⟩) (hne b o rfl)
theorem Sl.ne {w : World} {a : Option Addr} {n g : Nat} {l : List UInt8} (h : Sl w a n l) (hg : w.heap.size ≤ g) : n = 0 ∨ ∀ b o, a = some ⟨b, o, none⟩ → b ≠ g := by
  by_cases h0 : n = 0
  · exact .inl h0
  · exact .inr fun b o e => by have := h.lt (by omega) b o e; omega
theorem Own.mutNe {w w' : World} {base n c g : Nat} {a : Option Addr} {l : List UInt8} (h : Own w base a n c l) (hM : Mut g w w') (hne : (Value.slice a n c).ownBlock ≠ some g) : Own w' base a n c l := by
  refine ⟨h.1, h.2.1, ?_⟩
  rcases h.2.2 with h1 | ⟨g', cap, cur, hv, hb, hh, r⟩
  · exact .inl h1
  · refine .inr ⟨g', cap, cur, hv, hb, ?_, r⟩
    rw [hM.block g' (Array.getElem?_eq_some_iff.1 hh).1 (fun e => hne (by rw [hv]; exact e))]
    exact hh
theorem Own.ne {w : World} {base n c g : Nat} {a : Option Addr} {l : List UInt8} (h : Own w base a n c l) (hg : w.heap.size ≤ g) : (Value.slice a n c).ownBlock ≠ some g := fun e => by
  have := (own_lt h.2 g e).2; omega
end Go.Sec
namespace Go.Proofs.YtdmifbfgeeldnaaGreat
open Go.RowKit Go.Sec Go.Oct Go.Pkt BigFrame

set_option maxRecDepth 100000 in
set_option maxHeartbeats 2000000 in
theorem xencode_any (a : Option Addr) (n c : Nat) (L : List Fld) (w : World) (hI : Ib w a n L) (hn : n ≤ 1000000) (hL : ∀ f ∈ L, f.2.length ≤ 1000000) :
    Calls Tryz.prog 60 #[.slice a n c] w (Read2 (encF L).1.length (encF L).1 (.int .i64 (encF L).2) w) := by
  have hl := hI.len
  obtain ⟨r, hr⟩ : ∃ r, encF L = r := ⟨_, rfl⟩
  rw [hr]
  have hr := Lib.hid hr
  have hp2 := fun (v : UInt64) (vI : Int) (hv : vI = n64 v) W => oput_any v 2 hv (show (2 : Int) = ((2 : Nat) : Int) from rfl) W (by omega)
  go_enter Tryz.func60, Tryz.ntmps60
  go_wp2_with fail
  go_loopw [4, 5, 7, 8, 9, 10, 13] (fun v4 v5 _ _ _ _ v13 wr => ∃ (k m : Nat) (sa : Option Addr) (sc : Nat) (O : List UInt8), k ≤ n ∧ v13 = .int .i64 k ∧ v5 = .bool (decide (1232 < totN (L.take k))) ∧ v4 = .slice sa m sc ∧ m ≤ 1232 ∧ Own wr w.heap.size sa m sc O ∧ Hid (totN (L.take k) ≤ 1232 → O = bytesF (L.take k)) ∧ Hid (badE (L.take k) = 0) ∧ Ext w wr) (fun _ _ _ _ _ _ v13 _ => n - (intOf v13).toNat)
  case atStart => exact ⟨0, 0, none, 0, [], by omega, rfl, rfl, rfl, by omega, Own.nil _ _, Lib.hid fun _ => rfl, Lib.hid rfl, Ext.refl _⟩
  case round =>
    obtain ⟨k, m, sa, sc, O, hk, rfl, rfl, rfl, hm, hO, hOl, hbad, hx⟩ := hrel
    by_cases hlt : k < n
    · obtain ⟨x, hxi⟩ : ∃ x, L[k]? = some x := ⟨_, List.getElem?_eq_getElem (by omega)⟩
      have hxl := hL x (List.mem_of_getElem? hxi)
      obtain ⟨b0, o0, g', c', rfl, hb0, hc0, hc1, hSk, hck⟩ := (hI.ext hx).at k hlt _ hxi
      have hrd := rd2 hb0.lt hc0 hc1
      have i0 : (0 : Int) ≤ (k : Int) := by omega
      have i1 : (k : Int) < (n : Int) := by omega
      have hsz := fun W => xSize_any x g' c' W (by omega)
      have hts := Lib.hid (take_at hxi)
      haveI := hb0
      by_cases he : (sizE x).2 = 0
      · obtain ⟨⟨t0, t1⟩, hzz, hze⟩ := sizE_ok he
        obtain ⟨N, hN⟩ : ∃ N, szN x.2.length = N := ⟨_, rfl⟩
        have hN16 := szN_ge x.2.length
        rw [hN] at hN16 hze hzz
        rw [hze] at hsz
        have htt := totN_snoc (L.take k) x
        have hb2 := Lib.hid (show badE (L.take (k + 1)) = 0 by rw [hts.out, badE_app _ _ hbad.out, badE, if_neg (by simpa using he)]; rfl)
        rw [← hts.out, hN] at htt
        clear he
        by_cases hlo : 1232 < totN (L.take k)
        · have il : decide (1232 < totN (L.take k)) = true := decide_eq_true hlo
          have il2 := Lib.hid (show decide (1232 < totN (L.take (k + 1))) = true from decide_eq_true (by omega))
          have hol := Lib.hid (show totN (L.take (k + 1)) ≤ 1232 → O = bytesF (L.take (k + 1)) from fun h => by omega)
          rw [il]
          clear htt hN16 hlo hN
          go_wp2_with (first
            | (refine wpList_load_arr (RF2) rfl _ rfl (b0) (o0 + k * 2) rfl ([.int .i64 x.1, .slice g' x.2.length c']) (hrd) (rfl) ?_)
            | (go_at_call 105; refine (hsz _).mono ?_; rintro e w1 ⟨rfl, hxq⟩; obtain ⟨xq, rfl⟩ := hxq.out; clear hxq)
            | fail)
          go_roundw
          case rel => exact ⟨k + 1, m, sa, sc, O, by omega, by go_num, by rw [il2.out], rfl, hm, hO.ext (by repeat (first | (with_reducible first | exact Ext.refl _ | assumption | apply Ext.alloc | apply Ext.ext | apply Ext.drew | refine Ext.setCell ?_ ?_ _) | (focus (simp [go_sem]; done)))), hol, hb2, hx.trans (by repeat (first | (with_reducible first | exact Ext.refl _ | assumption | apply Ext.alloc | apply Ext.ext | apply Ext.drew | refine Ext.setCell ?_ ?_ _) | (focus (simp [go_sem]; done))))⟩
          case measure => simp [intOf]; omega
        · have il : decide (1232 < totN (L.take k)) = false := decide_eq_false hlo
          have hOe := hOl.out (by omega)
          have hmt : m = totN (L.take k) := by rw [← hO.1, hOe, bytesF_length]
          rw [il]
          by_cases hlo2 : 1232 < m + N
          · have il2 := Lib.hid (show decide (1232 < totN (L.take (k + 1))) = true from decide_eq_true (by omega))
            have hol := Lib.hid (show totN (L.take (k + 1)) ≤ 1232 → O = bytesF (L.take (k + 1)) from fun h => by omega)
            have ilo : (1232 : Int) < (m : Int) + (N : Int) := by omega
            clear htt hN16 hlo hN hmt hOe
            go_wp2_with (first
              | (refine wpList_load_arr (RF2) rfl _ rfl (b0) (o0 + k * 2) rfl ([.int .i64 x.1, .slice g' x.2.length c']) (hrd) (rfl) ?_)
              | (go_at_call 105; refine (hsz _).mono ?_; rintro e w1 ⟨rfl, hxq⟩; obtain ⟨xq, rfl⟩ := hxq.out; clear hxq)
              | fail)
            go_roundw
            case rel => exact ⟨k + 1, m, sa, sc, O, by omega, by go_num, by rw [il2.out], rfl, hm, hO.ext (by repeat (first | (with_reducible first | exact Ext.refl _ | assumption | apply Ext.alloc | apply Ext.ext | apply Ext.drew | refine Ext.setCell ?_ ?_ _) | (focus (simp [go_sem]; done)))), hol, hb2, hx.trans (by repeat (first | (with_reducible first | exact Ext.refl _ | assumption | apply Ext.alloc | apply Ext.ext | apply Ext.drew | refine Ext.setCell ?_ ?_ _) | (focus (simp [go_sem]; done))))⟩
            case measure => simp [intOf]; omega
          · have il2 := Lib.hid (show decide (1232 < totN (L.take (k + 1))) = false from decide_eq_false (by omega))
            have hol := Lib.hid (show O ++ fldB x = bytesF (L.take (k + 1)) by rw [hOe, hts.out, bytesF_snoc])
            have ilo : ¬ (1232 : Int) < (m : Int) + (N : Int) := by omega
            have hfill := Lib.hid (fld_fill x N hN)
            have hfl := fldB_length x
            rw [hN] at hfl
            clear htt hlo hN hmt hOe
            have hmk := run_make_by U 0 N (Nat.zero_le _) (by omega)
            simp only [Int.cast_ofNat_Int] at hmk
            go_wp2_with (first
              | (refine wpList_load_arr (RF2) rfl _ rfl (b0) (o0 + k * 2) rfl ([.int .i64 x.1, .slice g' x.2.length c']) (hrd) (rfl) ?_)
              | (go_at_call 105; refine (hsz _).mono ?_; rintro e w1 ⟨rfl, hxq⟩; obtain ⟨xq, rfl⟩ := hxq.out; clear hxq)
              | fail)
            refine nameW ?_
            intro W hW
            have hEW : Ext wr W := by rw [hW]; exact (by repeat (first | (with_reducible first | exact Ext.refl _ | assumption | apply Ext.alloc | apply Ext.ext | apply Ext.drew | refine Ext.setCell ?_ ?_ _) | (focus (simp [go_sem]; done))))
            have hF : Blk W wr.heap.size 66 [.int .i64 x.1, .slice g' x.2.length c'] := by rw [hW]; exact (by repeat (first | assumption | (refine Blk.newAt _ _ _ _ ?_; first | rfl | (simp only [World.size_alloc]; done)) | apply Blk.ext | apply Blk.alloc | (refine Blk.other ?_ ?_ _; rotate_left; (simp <;> omega))))
            have hB := blk_zeros8 ((wr.alloc (.cells #[.int .i64 x.1, .slice g' x.2.length c'] 66)).ext xq) N
            rw [← hW] at hB
            have hgl : wr.heap.size ≤ ((wr.alloc (.cells #[.int .i64 x.1, .slice g' x.2.length c'] 66)).ext xq).heap.size := Below.size (B := wr.heap.size) (by repeat (first | (with_reducible first | exact Ext.refl _ | assumption | apply Ext.alloc | apply Ext.ext | apply Ext.drew | refine Ext.setCell ?_ ?_ _) | (focus (simp [go_sem]; done))))
            have hgn : wr.heap.size ≠ ((wr.alloc (.cells #[.int .i64 x.1, .slice g' x.2.length c'] 66)).ext xq).heap.size := by
              have h := lt_blk (n := wr.heap.size) (w := (wr.alloc (.cells #[.int .i64 x.1, .slice g' x.2.length c'] 66)).ext xq); omega
            generalize ((wr.alloc (.cells #[.int .i64 x.1, .slice g' x.2.length c'] 66)).ext xq).heap.size = g at *
            clear hW hmk
            have hS0 := hSk.ext hEW
            have hO0 := hO.ext hEW
            have hSne := hSk.ne hgl
            have hOne := hO.ne hgl
            have hgW := hB.lt
            haveI := hF.blt
            have i4 : 0 ≤ x.1 := t0
            have hv1 : IntKind.u64.wrap x.1 = n64 (UInt64.ofNat x.1.toNat) := by rw [IntKind.wrap_u64]; unfold n64; rw [UInt64.toNat_ofNat']; omega
            have hv2 : IntKind.u64.wrap (N : Int) = n64 (UInt64.ofNat N) := by rw [IntKind.wrap_u64]; unfold n64; rw [UInt64.toNat_ofNat']; omega
            have hpa := hp2 _ _ hv1
            have hpb := hp2 _ _ hv2
            clear hv1 hv2 hp2
            have hfl := Lib.hid hfl
            have hSE : ∀ w', Ext (W) w' → (fun w' => w'.cell? ⟨wr.heap.size, 0, none⟩ = some (.int .i64 x.1) ∧ w'.cell? ⟨wr.heap.size, 1, none⟩ = some (.slice g' x.2.length c')) w' := (fun w' h => ⟨(hF.extB h).cell? 0 rfl, (hF.extB h).cell? 1 rfl⟩); have hExt0 : Ext (W) (W).drew := Ext.drew (Ext.refl _); refine wp_region_held_drew (S := fun w' => w'.cell? ⟨wr.heap.size, 0, none⟩ = some (.int .i64 x.1) ∧ w'.cell? ⟨wr.heap.size, 1, none⟩ = some (.slice g' x.2.length c')) (by kernel_rfl) (hSE _ hExt0) (fun hHeld => ?_)
            refine wpAnyH_take (i := 0) (v := ?v36) rfl (by kernel_rfl) (by kernel_rfl) (by kernel_rfl) (fun _ _ _ h => h) (Or.inl ⟨by rfl, ?hy36⟩) hHeld ?_; (case hy36 => (intro w' hx; simp [go_sem, execOp, *]; (try simp (disch := omega) only [Go.IntWalk.i64_in, Go.IntWalk.rem_in, Go.IntWalk.wrap64_in]); rfl)); (try simp only [List.getElem_toArray, List.getElem_cons_succ, List.getElem_cons_zero, Act.put, List.setIfInBounds_toArray, List.set_cons_succ, List.set_cons_zero])
            refine wpAnyH_take (i := 1) (v := ?v37) rfl (by kernel_rfl) (by kernel_rfl) (by kernel_rfl) (fun _ _ _ h => h) (Or.inl ⟨by rfl, ?hy37⟩) hHeld ?_; (case hy37 => (intro w' hx; simp [go_sem, execOp, *]; (try simp (disch := omega) only [Go.IntWalk.i64_in, Go.IntWalk.rem_in, Go.IntWalk.wrap64_in]); rfl)); (try simp only [List.getElem_toArray, List.getElem_cons_succ, List.getElem_cons_zero, Act.put, List.setIfInBounds_toArray, List.set_cons_succ, List.set_cons_zero])
            refine wpAnyH_take (i := 2) (v := ?v38) rfl (by kernel_rfl) (by kernel_rfl) (by kernel_rfl) (fun _ _ _ h => h) (Or.inl ⟨by rfl, ?hy38⟩) hHeld ?_; (case hy38 => (intro w' hx; simp [go_sem, execOp, *]; (try simp (disch := omega) only [Go.IntWalk.i64_in, Go.IntWalk.rem_in, Go.IntWalk.wrap64_in]); rfl)); (try simp only [List.getElem_toArray, List.getElem_cons_succ, List.getElem_cons_zero, Act.put, List.setIfInBounds_toArray, List.set_cons_succ, List.set_cons_zero])
            refine wpAnyH_take (i := 3) (v := ?v39) rfl (by kernel_rfl) (by kernel_rfl) (by kernel_rfl) (fun _ _ _ h => h) (Or.inl ⟨by rfl, ?hy39⟩) hHeld ?_; (case hy39 => (intro w' hx; simp [go_sem, execOp, *]; (try simp (disch := omega) only [Go.IntWalk.i64_in, Go.IntWalk.rem_in, Go.IntWalk.wrap64_in]); rfl)); (try simp only [List.getElem_toArray, List.getElem_cons_succ, List.getElem_cons_zero, Act.put, List.setIfInBounds_toArray, List.set_cons_succ, List.set_cons_zero])
            refine wpAnyH_take (i := 6) (v := ?v40) rfl (by kernel_rfl) (by kernel_rfl) (by kernel_rfl) (fun _ _ _ h => h) (Or.inl ⟨by rfl, ?hy40⟩) hHeld ?_; (case hy40 => (intro w' hx; simp [go_sem, execOp, *]; (try simp (disch := omega) only [Go.IntWalk.i64_in, Go.IntWalk.rem_in, Go.IntWalk.wrap64_in]); rfl)); (try simp only [List.getElem_toArray, List.getElem_cons_succ, List.getElem_cons_zero, Act.put, List.setIfInBounds_toArray, List.set_cons_succ, List.set_cons_zero])
            refine wpAnyH_take (i := 7) (v := ?v41) rfl (by kernel_rfl) (by kernel_rfl) (by kernel_rfl) (fun _ _ _ h => h) (Or.inl ⟨by rfl, ?hy41⟩) hHeld ?_; (case hy41 => (intro w' hx; simp [go_sem, execOp, *]; (try simp (disch := omega) only [Go.IntWalk.i64_in, Go.IntWalk.rem_in, Go.IntWalk.wrap64_in]); rfl)); (try simp only [List.getElem_toArray, List.getElem_cons_succ, List.getElem_cons_zero, Act.put, List.setIfInBounds_toArray, List.set_cons_succ, List.set_cons_zero])
            refine wpAnyH_take (i := 10) (v := ?v42) rfl (by kernel_rfl) (by kernel_rfl) (by kernel_rfl) (fun _ _ _ h => h) (Or.inl ⟨by rfl, ?hy42⟩) hHeld ?_; (case hy42 => (intro w' hx; simp [go_sem, execOp, *]; (try simp (disch := omega) only [Go.IntWalk.i64_in, Go.IntWalk.rem_in, Go.IntWalk.wrap64_in]); rfl)); (try simp only [List.getElem_toArray, List.getElem_cons_succ, List.getElem_cons_zero, Act.put, List.setIfInBounds_toArray, List.set_cons_succ, List.set_cons_zero])
            refine wpAnyH_take (i := 11) (v := ?v43) rfl (by kernel_rfl) (by kernel_rfl) (by kernel_rfl) (fun _ _ _ h => h) (Or.inl ⟨by rfl, ?hy43⟩) hHeld ?_; (case hy43 => (intro w' hx; simp [go_sem, execOp, *]; (try simp (disch := omega) only [Go.IntWalk.i64_in, Go.IntWalk.rem_in, Go.IntWalk.wrap64_in]); rfl)); (try simp only [List.getElem_toArray, List.getElem_cons_succ, List.getElem_cons_zero, Act.put, List.setIfInBounds_toArray, List.set_cons_succ, List.set_cons_zero])
            (refine R5.any_only 4 (by kernel_rfl) rfl rfl ?_; unfold gives; simp [go_sem, execOp])
            (with_reducible refine (hpa _).mono ?_)
            rintro e w5 ⟨a5, c5, rfl, hO5, hx5⟩
            have hx5 : Ext W w5 := hExt0.trans hx5
            refine ⟨_, rfl, hSE _ hx5, ?_⟩
            (try simp only [List.getElem_toArray, List.getElem_cons_succ, List.getElem_cons_zero, Act.put, List.setIfInBounds_toArray, List.set_cons_succ, List.set_cons_zero])
            refine R5.any_only 5 (by kernel_rfl) rfl rfl (R5.gives_append_fit U _ _ rfl g 0 N rfl a5 2 c5 rfl _ _ (hB.extB hx5) (by simp) hO5.sl (by omega) ?_)
            intro w6 hB6 hM6
            have hF6 := Blk.turn hM6 (hF.extB hx5) hgn
            refine ⟨⟨hF6.cell? 0 rfl, hF6.cell? 1 rfl⟩, ?_⟩
            (try simp only [List.getElem_toArray, List.getElem_cons_succ, List.getElem_cons_zero, Act.put, List.setIfInBounds_toArray, List.set_cons_succ, List.set_cons_zero])
            (refine R5.any_only 8 (by kernel_rfl) rfl rfl ?_; unfold gives; simp [go_sem, execOp])
            (with_reducible refine (hpb _).mono ?_)
            rintro e w7 ⟨a7, c7, rfl, hO7, hx7⟩
            have hF7 := hF6.extB hx7
            refine ⟨_, rfl, ⟨hF7.cell? 0 rfl, hF7.cell? 1 rfl⟩, ?_⟩
            (try simp only [List.getElem_toArray, List.getElem_cons_succ, List.getElem_cons_zero, Act.put, List.setIfInBounds_toArray, List.set_cons_succ, List.set_cons_zero])
            refine R5.any_only 9 (by kernel_rfl) rfl rfl (R5.gives_append_fit U _ _ rfl g (0 + 2) N rfl a7 2 c7 rfl _ _ (hB6.extB hx7) (by simp [putL_length]; omega) hO7.sl (by omega) ?_)
            intro w8 hB8 hM8
            have hF8 := Blk.turn hM8 hF7 hgn
            have hS8 := (((hS0.ext hx5).mutNe hM6 hSne).ext hx7).mutNe hM8 hSne
            refine ⟨⟨hF8.cell? 0 rfl, hF8.cell? 1 rfl⟩, ?_⟩
            (try simp only [List.getElem_toArray, List.getElem_cons_succ, List.getElem_cons_zero, Act.put, List.setIfInBounds_toArray, List.set_cons_succ, List.set_cons_zero])
            refine R5.any_only 12 (by kernel_rfl) rfl rfl (R5.gives_append_fit U _ _ rfl g (0 + 2 + 2) N rfl g' x.2.length c' rfl _ _ hB8 (by simp [putL_length]; omega) hS8 (by omega) ?_)
            intro w9 hB9 hM9
            have hF9 := Blk.turn hM9 hF8 hgn
            have hO9 := ((((hO0.ext hx5).mutNe hM6 hOne).ext hx7).mutNe hM8 hOne).mutNe hM9 hOne
            have hE5 := (hx.trans hEW).trans hx5
            have hE6 : Ext w w6 := Below.trans hE5 (hM6.below (by have := hx.size; omega) hE5.size)
            have hE7 := hE6.trans hx7
            have hE8 : Ext w w8 := Below.trans hE7 (hM8.below (by have := hx.size; omega) hE7.size)
            have hE9 : Ext w w9 := Below.trans hE8 (hM9.below (by have := hx.size; omega) hE8.size)
            rw [hfill.out] at hB9
            have hS9 := hB9.sl hfl.out
            refine ⟨⟨hF9.cell? 0 rfl, hF9.cell? 1 rfl⟩, ?_⟩
            (try simp only [List.getElem_toArray, List.getElem_cons_succ, List.getElem_cons_zero, Act.put, List.setIfInBounds_toArray, List.set_cons_succ, List.set_cons_zero])
            (refine R5.any_only 13 (by kernel_rfl) rfl rfl ?_; unfold gives; simp [go_sem, execOp])
            refine ⟨⟨hF9.cell? 0 rfl, hF9.cell? 1 rfl⟩, ?_⟩
            (try simp only [List.getElem_toArray, List.getElem_cons_succ, List.getElem_cons_zero, Act.put, List.setIfInBounds_toArray, List.set_cons_succ, List.set_cons_zero])
            refine wpAnyH_done (by kernel_rfl) ?_ _
            clear hSE hExt0 hfill hB6 hB8 hM6 hM8 hM9 hF6 hF7 hF8 hF9 hE5 hE6 hE7 hE8 hO5 hO7 hS8 hpa hpb
            have iN : (N : Int) ≤ (N : Int) := Int.le_refl _
            go_wp2_with (at_builtin; refine wpList_append_by U rfl _ _ rfl w.heap.size sa _ sc _ rfl (some ⟨g, 0, none⟩) N N _ rfl hO9 hS9 (by omega) hE9.size ?_; intro sa2 sc2 w2 hO2 hg2 hB2)
            go_roundw
            case rel => exact ⟨k + 1, m + N, sa2, sc2, _, by omega, by go_num, by rw [il2.out]; simp; omega, rfl, by omega, hO2, Lib.hid fun _ => hol.out, hb2, Below.trans hE9 hB2⟩
            case measure => simp [intOf]; omega
      · have he2 := Lib.hid (show r = ([], (sizE x).2) by
          rw [← hr.out]; unfold encF; rw [badE_at hxi hbad.out he, if_pos he])
        have hne : ((sizE x).2 != 0) = true := by rw [bne_iff_ne]; exact he
        generalize (sizE x).2 = ev at *
        generalize (sizE x).1 = sv at *
        clear he
        go_wp2_with (first
          | (refine wpList_load_arr (RF2) rfl _ rfl (b0) (o0 + k * 2) rfl ([.int .i64 x.1, .slice g' x.2.length c']) (hrd) (rfl) ?_)
          | (go_at_call 105; refine (hsz _).mono ?_; rintro e w1 ⟨rfl, hxq⟩; obtain ⟨xq, rfl⟩ := hxq.out; clear hxq)
          | fail)
        go_ret2
        rw [he2.out]
        exact read2_err _ _ _ (hx.trans (by repeat (first | (with_reducible first | exact Ext.refl _ | assumption | apply Ext.alloc | apply Ext.ext | apply Ext.drew | refine Ext.setCell ?_ ?_ _) | (focus (simp [go_sem]; done)))))
    · obtain rfl : k = n := by omega
      rw [List.take_of_length_le (by omega)] at *
      by_cases h24 : 24 < k
      · have i24 : (24 : Int) < (k : Int) := by omega
        have er := Lib.hid (show r = ([], 8) by rw [← hr.out]; unfold encF; rw [hbad.out, if_neg (by simp), if_pos (by omega)])
        go_wp2_with fail
        go_ret2
        rw [er.out]
        exact read2_err _ _ _ hx
      · have i24 : ¬ (24 : Int) < (k : Int) := by omega
        by_cases hlo : 1232 < totN L
        · have er := Lib.hid (show r = ([], 2) by rw [← hr.out]; unfold encF; rw [hbad.out, if_neg (by simp), if_neg (by omega), if_pos hlo])
          have il : decide (1232 < totN L) = true := decide_eq_true hlo
          rw [il]
          go_wp2_with fail
          go_ret2
          rw [er.out]
          exact read2_err _ _ _ hx
        · have er := Lib.hid (show r = (O, 0) by rw [← hr.out]; unfold encF; rw [hbad.out, if_neg (by simp), if_neg (by omega), if_neg hlo, hOl.out (by omega)])
          have il : decide (1232 < totN L) = false := decide_eq_false hlo
          have hOL := hO.1
          rw [il]
          go_wp2_with fail
          go_ret2
          rw [er.out]
          exact ⟨sa, sc, by rw [hOL]; rfl, by rw [hOL]; exact hO.sl, by rw [hOL]; exact hO.le.1, hx⟩
end Go.Proofs.YtdmifbfgeeldnaaGreat

/- The walks of layer 18: open, Bare, nonced, padded, the guard's bytes. -/
namespace Go.Sec
theorem Rd.left {w : World} {a : Option Addr} {vs us : List Value} (h : Rd w a (vs ++ us)) : Rd w a vs := by
  rcases h with h | ⟨b, o, ha, hb, hc⟩
  · exact .inl (List.append_eq_nil_iff.1 h).1
  · exact .inr ⟨b, o, ha, hb, fun k v hk => hc k v (by rw [List.getElem?_append_left (List.getElem?_eq_some_iff.1 hk).1]; exact hk)⟩
end Go.Sec
namespace Go.Proofs.YtdmifbfgeeldnaaGreat
open Go.RowKit Go.Sec Go.Oct Go.Pkt Go.Aes BigFrame

theorem RP16 : RowT Tryz.prog 32 16 := ⟨⟨_, Tryz.underlying32, rfl⟩, by kernel_rfl, ⟨_, Tryz.zeroValue32, by kernel_rfl⟩⟩

theorem openB_err {h : Hdr} {L : List Fld} (h1 : (encH h).2 ≠ 0) : openB h L = ([], (encH h).2) := if_pos h1
theorem openB_err2 {h : Hdr} {L : List Fld} (h1 : (encH h).2 = 0) (h2 : (encF L).2 ≠ 0) : openB h L = ([], (encF L).2) := by unfold openB; rw [if_neg (by simpa using h1), if_pos h2]
theorem openB_ok {h : Hdr} {L : List Fld} (h1 : (encH h).2 = 0) (h2 : (encF L).2 = 0) : openB h L = ((encH h).1 ++ (encF L).1, 0) := by unfold openB; rw [if_neg (by simpa using h1), if_neg (by simpa using h2)]
theorem encH_len {h : Hdr} : (encH h).1.length ≤ 48 := by unfold encH; split <;> simp [hdrB_length]
theorem encF_len {L : List Fld} : (encF L).1.length ≤ 1232 := by
  by_cases h : (encF L).2 = 0
  · obtain ⟨_, _, h3, h4⟩ := encF_ok h
    rw [h4, bytesF_length]; exact h3
  · unfold encF at h ⊢
    split
    · simp
    · split
      · simp
      · split
        · simp
        · rename_i h1 h2 h3; rw [if_neg h1, if_neg h2, if_neg h3] at h; exact absurd rfl h

set_option maxRecDepth 100000 in
set_option maxHeartbeats 4000000 in
theorem popen_any (h : Hdr) (a1 a2 : Option Addr) (n1 c1 n2 c2 : Nat) (gd : Bool) (L : List Fld) (w : World) (hI : Ib w a1 n1 L) (hn : n1 ≤ 1000000) (hL : ∀ f ∈ L, f.2.length ≤ 1000000) :
    Calls Tryz.prog 58 #[.agg #[.int .i64 h.leap, .int .i64 h.ver, .int .i64 h.mode, .int .i64 h.strat, .int .i64 h.poll, .int .i64 h.prec, .int .u32 (n32 h.rd), .int .u32 (n32 h.rp), .int .u32 (n32 h.id), .int .u64 (n64 h.ref), .int .u64 (n64 h.org), .int .u64 (n64 h.rcv), .int .u64 (n64 h.tx), .slice a1 n1 c1, .slice a2 n2 c2, .bool gd]] w (Read2 (openB h L).1.length (openB h L).1 (.int .i64 (openB h L).2) w) := by
  have he := fun W => pencode_any h W
  have hx := fun W H => xencode_any a1 n1 c1 L W H hn hL
  go_enter Tryz.func58, Tryz.ntmps58
  go_wp2_with (first
    | (refine wpList_load_arr (RH13) rfl _ rfl (w.heap.size) (0) rfl ([.int .i64 h.leap, .int .i64 h.ver, .int .i64 h.mode, .int .i64 h.strat, .int .i64 h.poll, .int .i64 h.prec, .int .u32 (n32 h.rd), .int .u32 (n32 h.rp), .int .u32 (n32 h.id), .int .u64 (n64 h.ref), .int .u64 (n64 h.org), .int .u64 (n64 h.rcv), .int .u64 (n64 h.tx)]) ((Rd.left (vs := [.int .i64 h.leap, .int .i64 h.ver, .int .i64 h.mode, .int .i64 h.strat, .int .i64 h.poll, .int .i64 h.prec, .int .u32 (n32 h.rd), .int .u32 (n32 h.rp), .int .u32 (n32 h.id), .int .u64 (n64 h.ref), .int .u64 (n64 h.org), .int .u64 (n64 h.rcv), .int .u64 (n64 h.tx)]) (us := [.slice a1 n1 c1, .slice a2 n2 c2, .bool gd]) (Blk.new w #[.int .i64 h.leap, .int .i64 h.ver, .int .i64 h.mode, .int .i64 h.strat, .int .i64 h.poll, .int .i64 h.prec, .int .u32 (n32 h.rd), .int .u32 (n32 h.rp), .int .u32 (n32 h.id), .int .u64 (n64 h.ref), .int .u64 (n64 h.org), .int .u64 (n64 h.rcv), .int .u64 (n64 h.tx), .slice a1 n1 c1, .slice a2 n2 c2, .bool gd] 32).rd)) (rfl) ?_)
    | fail)
  refine nameCl ?_
  intro W hW
  have hE : Ext w W := by rw [hW]; exact (by repeat (first | (with_reducible first | exact Ext.refl _ | assumption | apply Ext.alloc | apply Ext.ext | apply Ext.drew | refine Ext.setCell ?_ ?_ _) | (focus (simp [go_sem]; done))))
  have hB : Blk W w.heap.size 32 [.int .i64 h.leap, .int .i64 h.ver, .int .i64 h.mode, .int .i64 h.strat, .int .i64 h.poll, .int .i64 h.prec, .int .u32 (n32 h.rd), .int .u32 (n32 h.rp), .int .u32 (n32 h.id), .int .u64 (n64 h.ref), .int .u64 (n64 h.org), .int .u64 (n64 h.rcv), .int .u64 (n64 h.tx), .slice a1 n1 c1, .slice a2 n2 c2, .bool gd] := by rw [hW]; exact (by repeat (first | assumption | (refine Blk.newAt _ _ _ _ ?_; first | rfl | (simp only [World.size_alloc]; done)) | apply Blk.ext | apply Blk.alloc | (refine Blk.other ?_ ?_ _; rotate_left; (simp <;> omega))))
  clear hW
  (with_reducible refine (he W).mono ?_)
  rintro e w1 ⟨b1, d1, rfl, hS1, hd1, hx1⟩
  have hB1 := hB.extB hx1
  have hE1 := hE.trans hx1
  haveI := hB1.blt
  have f13 : w1.cell? ⟨w.heap.size, 13, none⟩ = some (.slice a1 n1 c1) := hB1.cell? 13 rfl
  clear he hB hE hx1
  by_cases h0 : (encH h).2 = 0
  · rw [h0]
    go_wp2_with fail
    (with_reducible refine (hx w1 (hI.ext hE1)).mono ?_)
    rintro e w2 ⟨b2, d2, rfl, hS2, hd2, hx2⟩
    by_cases h1 : (encF L).2 = 0
    · rw [h1]
      have er := Lib.hid (openB_ok h0 h1)
      have hl1 := encH_len (h := h)
      have hl2 := encF_len (L := L)
      generalize (encH h).1 = B1 at *
      generalize (encF L).1 = B2 at *
      clear h0 h1 hx f13
      have hS1 := hS1.ext hx2
      have hj : joinL [B1, B2] = B1 ++ B2 := joinL2 _ _
      have hjl : (joinL [B1, B2]).length = B1.length + B2.length := by rw [hj, List.length_append]
      have HJ := Lib.hid hj
      clear hj
      go_wp2_with fail
      (with_reducible refine (ojoin_any _ _ _ [B1, B2] _ (bss2 (hS1.ext (by repeat (first | (with_reducible first | exact Ext.refl _ | assumption | apply Ext.alloc | apply Ext.ext | apply Ext.drew | refine Ext.setCell ?_ ?_ _) | (focus (simp [go_sem]; done))))) (hS2.ext (by repeat (first | (with_reducible first | exact Ext.refl _ | assumption | apply Ext.alloc | apply Ext.ext | apply Ext.drew | refine Ext.setCell ?_ ?_ _) | (focus (simp [go_sem]; done))))) _) (by omega) (B1.length + B2.length) hjl (by omega)).mono ?_)
      rintro e w3 ⟨a3, c3, rfl, hO3, hx3⟩
      rw [HJ.out] at hO3
      go_wp2_with fail
      go_ret2
      rw [er.out]
      show Read2 (B1 ++ B2).length _ _ _ _ _
      rw [List.length_append]
      exact ⟨a3, c3, rfl, hO3.sl, hO3.le.1, (hE1.trans hx2).trans ((Ext.of_alloc _ _).trans hx3)⟩
    · have er := Lib.hid (openB_err2 h0 h1)
      have hI := ne0 h1
      generalize (encF L).2 = v at *
      clear h0 h1 hx f13
      go_wp2_with fail
      go_ret2
      rw [er.out]
      exact read2_err _ _ _ (hE1.trans hx2)
  · have er := Lib.hid (openB_err (L := L) h0)
    have hI := ne0 h0
    generalize (encH h).2 = v at *
    clear h0 hx f13
    go_wp2_with fail
    go_ret2
    rw [er.out]
    exact read2_err _ _ _ hE1

set_option maxRecDepth 100000 in
theorem pnonced_any (n : Nat) {nI : Int} (hn : nI = (n : Int)) (w : World) :
    Calls Tryz.prog 59 #[.int .i64 nI] w fun e w' => e = .returned (.bool (decide (16 ≤ n ∧ n ≤ 32))) ∧ Ext w w' := by
  subst hn
  obtain ⟨d, hd⟩ : ∃ d, decide (16 ≤ n ∧ n ≤ 32) = d := ⟨_, rfl⟩
  rw [hd]
  by_cases h1 : 16 ≤ n
  · have i1 : (16 : Int) ≤ (n : Int) := by omega
    by_cases h2 : n ≤ 32
    · have i2 : (n : Int) ≤ 32 := by omega
      have e := Lib.hid (show d = true by rw [← hd]; exact decide_eq_true ⟨h1, h2⟩)
      clear h1 h2 hd
      go_enter Tryz.func59, Tryz.ntmps59
      go_wp2
      go_ret
      exact ⟨by rw [e.out]; rfl, (by repeat (first | (with_reducible first | exact Ext.refl _ | assumption | apply Ext.alloc | apply Ext.ext | apply Ext.drew | refine Ext.setCell ?_ ?_ _) | (focus (simp [go_sem]; done))))⟩
    · have i2 : ¬ (n : Int) ≤ 32 := by omega
      have e := Lib.hid (show d = false by rw [← hd]; exact decide_eq_false fun h => h2 h.2)
      clear h1 h2 hd
      go_enter Tryz.func59, Tryz.ntmps59
      go_wp2
      go_ret
      exact ⟨by rw [e.out]; rfl, (by repeat (first | (with_reducible first | exact Ext.refl _ | assumption | apply Ext.alloc | apply Ext.ext | apply Ext.drew | refine Ext.setCell ?_ ?_ _) | (focus (simp [go_sem]; done))))⟩
  · have i1 : ¬ (16 : Int) ≤ (n : Int) := by omega
    have e := Lib.hid (show d = false by rw [← hd]; exact decide_eq_false fun h => h1 h.1)
    clear h1 hd
    go_enter Tryz.func59, Tryz.ntmps59
    go_wp2
    go_ret
    exact ⟨by rw [e.out]; rfl, (by repeat (first | (with_reducible first | exact Ext.refl _ | assumption | apply Ext.alloc | apply Ext.ext | apply Ext.drew | refine Ext.setCell ?_ ?_ _) | (focus (simp [go_sem]; done))))⟩

set_option maxRecDepth 100000 in
theorem ppadded_any (n : Nat) {nI : Int} (hn : nI = (n : Int)) (w : World) (h : n ≤ 1000000000) :
    Calls Tryz.prog 94 #[.int .i64 nI] w fun e w' => e = .returned (.int .i64 ((pad4 n : Nat) : Int)) ∧ Ext w w' := by
  subst hn
  have e : ((n : Int) + 4 - 1) / 4 * 4 = (pad4 n : Nat) := by unfold pad4; omega
  go_enter Tryz.func94, Tryz.ntmps94
  go_wp2
  go_ret
  exact ⟨by rw [← e]; rfl, (by repeat (first | (with_reducible first | exact Ext.refl _ | assumption | apply Ext.alloc | apply Ext.ext | apply Ext.drew | refine Ext.setCell ?_ ?_ _) | (focus (simp [go_sem]; done))))⟩

theorem padL4 (l : List UInt8) : padL l 4 = l ++ List.replicate (pad4 l.length - l.length) 0 := by
  unfold padL padN pad4
  rw [if_pos (by omega)]
  congr 2
  omega
theorem padL4_length (l : List UInt8) : (padL l 4).length = pad4 l.length := by
  rw [padL4, List.length_append, List.length_replicate]; unfold pad4; omega
set_option maxRecDepth 100000 in
set_option maxHeartbeats 2000000 in
theorem opad4_any (a : Option Addr) (n c : Nat) (l : List UInt8) (w : World) (h : Sl w a n l) (hn : n ≤ 1000000) :
    Calls Tryz.prog 107 #[.slice a n c, .int .i64 4] w (Fresh (pad4 n) (padL l 4) w) := by
  have hl := h.len
  have hp := Lib.hid (padL4 l)
  have hcl := fun W H => clone_any a n c l W H (by omega)
  go_enter Tryz.func107, Tryz.ntmps107
  go_wp2_with fail
  (with_reducible refine (hcl w h).mono ?_)
  rintro e w1 ⟨a1, c1, rfl, hO1, hx1⟩
  go_wp2_with fail
  go_loopw [5] (fun v5 wr => ∃ (m : Nat) (sa : Option Addr) (sc : Nat), n ≤ m ∧ m ≤ pad4 n ∧ v5 = .slice sa m sc ∧ Own wr w.heap.size sa m sc (l ++ List.replicate (m - n) 0) ∧ Ext w wr) (fun v5 _ => match v5 with | .slice _ m _ => pad4 n - m | _ => 0)
  case atStart => exact ⟨n, a1, c1, Nat.le_refl _, by unfold pad4; omega, rfl, by simpa using hO1, hx1⟩
  case round =>
    obtain ⟨m, sa, sc, hm0, hm1, rfl, hO, hx⟩ := hrel
    by_cases hlt : m < pad4 n
    · have hmod : ((m : Int) % 4 != 0) = true := by rw [bne_iff_ne]; unfold pad4 at hlt; omega
      have HS := Lib.hid (show m + 1 - n = (m - n) + 1 by omega)
      go_wp2_with (at_builtin; refine wpList_append_by U rfl _ _ rfl w.heap.size sa _ sc _ rfl _ 1 1 _ rfl (hO.ext (by repeat (first | (with_reducible first | exact Ext.refl _ | assumption | apply Ext.alloc | apply Ext.ext | apply Ext.drew | refine Ext.setCell ?_ ?_ _) | (focus (simp [go_sem]; done))))) (sl_new1 _ 0 _) (by unfold pad4 at hm1; omega) (by simp; have := hx.size; omega) ?_; intro sa2 sc2 w2 hO2 hg2 hB2)
      go_roundw
      case rel => exact ⟨m + 1, sa2, sc2, by omega, by omega, rfl, by rw [HS.out, List.replicate_succ', ← List.append_assoc]; exact hO2, Below.trans (b := wr.alloc _) (by repeat (first | (with_reducible first | exact Ext.refl _ | assumption | apply Ext.alloc | apply Ext.ext | apply Ext.drew | refine Ext.setCell ?_ ?_ _) | (focus (simp [go_sem]; done)))) hB2⟩
      case measure => show pad4 n - (m + 1) < pad4 n - m; omega
    · obtain rfl : m = pad4 n := by omega
      have hmod : (((pad4 n : Nat) : Int) % 4 != 0) = false := by rw [bne_eq_false_iff_eq]; unfold pad4; omega
      have hq := Lib.hid (show l ++ List.replicate (pad4 n - n) 0 = padL l 4 by rw [hp.out, hl])
      go_wp2
      go_ret
      exact ⟨_, _, rfl, by rw [← hq.out]; exact hO, hx⟩

theorem guardB_length (n s : List UInt8) : (guardB n s).length = 4 + pad4 n.length + pad4 s.length := by
  simp only [guardB, List.length_append, putL_length, padL4_length]; omega
set_option maxRecDepth 100000 in
set_option maxHeartbeats 4000000 in
theorem pgbytes_any (a1 a2 : Option Addr) (n1 c1 n2 c2 : Nat) (u v : List UInt8) (w : World) (h1 : Sl w a1 n1 u) (h2 : Sl w a2 n2 v) (m1 : n1 ≤ 1000000) (m2 : n2 ≤ 1000000) :
    Calls Tryz.prog 63 #[.agg #[.slice a1 n1 c1, .slice a2 n2 c2]] w (Fresh (4 + pad4 n1 + pad4 n2) (guardB u v) w) := by
  have l1 := h1.len
  have l2 := h2.len
  have hv1 : IntKind.u64.wrap (n1 : Int) = n64 (UInt64.ofNat n1) := by rw [IntKind.wrap_u64]; unfold n64; rw [UInt64.toNat_ofNat']; omega
  have hv2 : IntKind.u64.wrap (n2 : Int) = n64 (UInt64.ofNat n2) := by rw [IntKind.wrap_u64]; unfold n64; rw [UInt64.toNat_ofNat']; omega
  have hpa := fun W => oput_any (UInt64.ofNat n1) 2 hv1 (show (2 : Int) = ((2 : Nat) : Int) from rfl) W (by omega)
  have hpb := fun W => oput_any (UInt64.ofNat n2) 2 hv2 (show (2 : Int) = ((2 : Nat) : Int) from rfl) W (by omega)
  have hG : joinL [putL 2 (UInt64.ofNat n1), putL 2 (UInt64.ofNat n2), padL u 4, padL v 4] = guardB u v := by unfold guardB; rw [joinL4, l1, l2]
  have hGl : (joinL [putL 2 (UInt64.ofNat n1), putL 2 (UInt64.ofNat n2), padL u 4, padL v 4]).length = 4 + pad4 n1 + pad4 n2 := by rw [hG, guardB_length, l1, l2]
  have HG := Lib.hid hG
  clear hG hv1 hv2 l1 l2
  go_enter Tryz.func63, Tryz.ntmps63
  go_wp2_with fail
  refine nameW ?_
  intro W hW
  have hE : Ext w W := by rw [hW]; exact (by repeat (first | (with_reducible first | exact Ext.refl _ | assumption | apply Ext.alloc | apply Ext.ext | apply Ext.drew | refine Ext.setCell ?_ ?_ _) | (focus (simp [go_sem]; done))))
  have hB : Blk W w.heap.size 86 [.slice a1 n1 c1, .slice a2 n2 c2] := by rw [hW]; exact (by repeat (first | assumption | (refine Blk.newAt _ _ _ _ ?_; first | rfl | (simp only [World.size_alloc]; done)) | apply Blk.ext | apply Blk.alloc | (refine Blk.other ?_ ?_ _; rotate_left; (simp <;> omega))))
  clear hW
  have h1 := h1.ext hE
  have h2 := h2.ext hE
  haveI := hB.blt
  have f0 := hB.cell? 0 rfl
  have f1 : W.cell? ⟨w.heap.size, 1, none⟩ = some (.slice a2 n2 c2) := hB.cell? 1 rfl
  refine wp_region_vague 16 [[], [0], [0, 1], [0, 1, 2], [0, 1, 2, 3], [], [5], [5, 6], [5, 6, 7], [0, 1, 2, 3, 4, 5, 6, 7, 8], [], [10], [0, 1, 2, 3, 4, 5, 6, 7, 8, 9, 10, 11], [], [13], [0, 1, 2, 3, 4, 5, 6, 7, 8, 9, 10, 11, 12, 13, 14], [0, 1, 2, 3, 4, 5, 6, 7, 8, 9, 10, 11, 12, 13, 14, 15], [0, 1, 2, 3, 4, 5, 6, 7, 8, 9, 10, 11, 12, 13, 14, 15, 16], [0, 1, 2, 3, 4, 5, 6, 7, 8, 9, 10, 11, 12, 13, 14, 15, 16, 17]] (by kernel_rfl) (by kernel_rfl) (by kernel_rfl) (by kernel_rfl) ?_; simp only [List.take_succ_cons, List.take_zero, List.drop_succ_cons, List.drop_zero, List.take_nil, List.drop_nil]
  (repeat (apply VD_der; (case h => (intro us w' hx hf; obtain ⟨x, rfl⟩ := hx.out; refine ⟨rfl, ?_⟩; simp [go_sem, execOp, *]; (try simp (disch := omega) only [Go.IntWalk.i64_in, Go.IntWalk.rem_in, Go.IntWalk.wrap64_in]); rfl)); (try simp only [Act.put, List.setIfInBounds_toArray, List.set_cons_succ, List.set_cons_zero])))
  (refine VD_vag (fun p => .slice (p 0).1 (2) (p 0).2) (fun p w'' => Own w'' 0 (p 0).1 (2) (p 0).2 (putL 2 (UInt64.ofNat n1))) (fun p w w' h hx => h.ext hx) (fun us w' hx hf => ⟨rfl, ?_⟩) ?_; (unfold gives; simp [go_sem, execOp]; exact vag_fresh (Nat.zero_le _) (hpa _)))
  (repeat (apply VD_der; (case h => (intro us w' hx hf; obtain ⟨x, rfl⟩ := hx.out; refine ⟨rfl, ?_⟩; simp [go_sem, execOp, *]; (try simp (disch := omega) only [Go.IntWalk.i64_in, Go.IntWalk.rem_in, Go.IntWalk.wrap64_in]); rfl)); (try simp only [Act.put, List.setIfInBounds_toArray, List.set_cons_succ, List.set_cons_zero])))
  (refine VD_vag (fun p => .slice (p 0).1 (2) (p 0).2) (fun p w'' => Own w'' 0 (p 0).1 (2) (p 0).2 (putL 2 (UInt64.ofNat n2))) (fun p w w' h hx => h.ext hx) (fun us w' hx hf => ⟨rfl, ?_⟩) ?_; (unfold gives; simp [go_sem, execOp]; exact vag_fresh (Nat.zero_le _) (hpb _)))
  (repeat (apply VD_der; (case h => (intro us w' hx hf; obtain ⟨x, rfl⟩ := hx.out; refine ⟨rfl, ?_⟩; simp [go_sem, execOp, *]; (try simp (disch := omega) only [Go.IntWalk.i64_in, Go.IntWalk.rem_in, Go.IntWalk.wrap64_in]); rfl)); (try simp only [Act.put, List.setIfInBounds_toArray, List.set_cons_succ, List.set_cons_zero])))
  (refine VD_vag (fun p => .slice (p 0).1 (pad4 n1) (p 0).2) (fun p w'' => Own w'' 0 (p 0).1 (pad4 n1) (p 0).2 (padL u 4)) (fun p w w' h hx => h.ext hx) (fun us w' hx hf => ⟨rfl, ?_⟩) ?_; (unfold gives; simp [go_sem, execOp]; exact vag_fresh (Nat.zero_le _) (opad4_any a1 n1 c1 u _ (h1.ext hx) m1)))
  (repeat (apply VD_der; (case h => (intro us w' hx hf; obtain ⟨x, rfl⟩ := hx.out; refine ⟨rfl, ?_⟩; simp [go_sem, execOp, *]; (try simp (disch := omega) only [Go.IntWalk.i64_in, Go.IntWalk.rem_in, Go.IntWalk.wrap64_in]); rfl)); (try simp only [Act.put, List.setIfInBounds_toArray, List.set_cons_succ, List.set_cons_zero])))
  (refine VD_vag (fun p => .slice (p 0).1 (pad4 n2) (p 0).2) (fun p w'' => Own w'' 0 (p 0).1 (pad4 n2) (p 0).2 (padL v 4)) (fun p w w' h hx => h.ext hx) (fun us w' hx hf => ⟨rfl, ?_⟩) ?_; (unfold gives; simp [go_sem, execOp]; exact vag_fresh (Nat.zero_le _) (opad4_any a2 n2 c2 v _ (h2.ext hx) m2)))
  (refine VD_nil ?_; intro us w' hx hf; obtain ⟨x, rfl⟩ := hx.out; (try simp only [Act.put, List.setIfInBounds_toArray, List.set_cons_succ, List.set_cons_zero, wpList_none]); (try simp only [List.mem_cons, List.not_mem_nil, or_false, forall_eq_or_imp, forall_eq, List.nil_append, List.cons_append, List.mem_append, false_or, true_and, and_true] at hf); (try simp only [Nat.reduceAdd, Nat.zero_add] at hf); (try simp only [Nat.reduceAdd, Nat.zero_add]))
  obtain ⟨hO1, hO2, hO3, hO4⟩ := hf
  obtain ⟨p1, hp1⟩ : ∃ a, (us 4 0).1 = a := ⟨_, rfl⟩
  obtain ⟨q1, hq1⟩ : ∃ a, (us 4 0).2 = a := ⟨_, rfl⟩
  obtain ⟨p2, hp2⟩ : ∃ a, (us 9 0).1 = a := ⟨_, rfl⟩
  obtain ⟨q2, hq2⟩ : ∃ a, (us 9 0).2 = a := ⟨_, rfl⟩
  obtain ⟨p3, hp3⟩ : ∃ a, (us 12 0).1 = a := ⟨_, rfl⟩
  obtain ⟨q3, hq3⟩ : ∃ a, (us 12 0).2 = a := ⟨_, rfl⟩
  obtain ⟨p4, hp4⟩ : ∃ a, (us 15 0).1 = a := ⟨_, rfl⟩
  obtain ⟨q4, hq4⟩ : ∃ a, (us 15 0).2 = a := ⟨_, rfl⟩
  rw [hp1, hq1] at hO1 ⊢
  rw [hp2, hq2] at hO2 ⊢
  rw [hp3, hq3] at hO3 ⊢
  rw [hp4, hq4] at hO4 ⊢
  clear hp1 hq1 hp2 hq2 hp3 hq3 hp4 hq4 f0 f1 hpa hpb
  have hx5 : Ext W (W.ext x) := Ext.of_ext _ _
  have s1 := hO1.sl
  have s2 := hO2.sl
  have s3 := hO3.sl
  have s4 := hO4.sl
  generalize W.ext x = W5 at *
  go_wp2_with fail
  (with_reducible refine (ojoin_any _ _ _ _ _ (bss4 s1 s2 s3 s4 _) (by omega) _ hGl (by unfold pad4; omega)).mono ?_)
  rintro e w9 ⟨a9, c9, rfl, hO9, hx9⟩
  rw [HG.out] at hO9
  go_wp2_with fail
  go_ret
  have hx8 := (hE.trans hx5).trans ((Ext.of_alloc _ _).trans hx9)
  exact ⟨a9, c9, rfl, hO9.mono (Nat.le_trans (hE.trans hx5).size (Ext.of_alloc _ _).size), hx8⟩
end Go.Proofs.YtdmifbfgeeldnaaGreat

/- The walks of layer 18: Bare, Read. -/
namespace Go.Pkt
theorem readE_head {b : List UInt8} (h : (decH b).2 ≠ 0) : readE b = (zeroP, (decH b).2) := if_pos h
theorem readE_flds {b : List UInt8} (h : (decH b).2 = 0) (h2 : (decF (decH b).1.2).2 ≠ 0) : readE b = (zeroP, (decF (decH b).1.2).2) := by unfold readE; rw [if_neg (by simpa using h), if_pos h2]
theorem readE_ok {b : List UInt8} (h : (decH b).2 = 0) (h2 : (decF (decH b).1.2).2 = 0) : readE b = (⟨(decH b).1.1, (decF (decH b).1.2).1, [], false⟩, 0) := by unfold readE; rw [if_neg (by simpa using h), if_neg (by simpa using h2)]
theorem decH_rest {b : List UInt8} : (decH b).1.2.length ≤ b.length := by
  unfold decH
  split
  · simp
  · split
    · simp
    · split <;> simp
theorem bareE_open {p : Pkt} (h : (openB p.h p.plain).2 ≠ 0) : bareE p = ([], (openB p.h p.plain).2) := if_pos h
theorem bareE_form {p : Pkt} (h : (openB p.h p.plain).2 = 0) (h2 : p.secret ≠ [] ∨ p.guarded = true) : bareE p = ([], 3) := by unfold bareE; rw [if_neg (by simpa using h), if_pos h2]
theorem bareE_ok {p : Pkt} (h : (openB p.h p.plain).2 = 0) (h2 : ¬ (p.secret ≠ [] ∨ p.guarded = true)) : bareE p = openB p.h p.plain := by unfold bareE; rw [if_neg (by simpa using h), if_neg h2]
end Go.Pkt
namespace Go.Proofs.YtdmifbfgeeldnaaGreat
open Go.RowKit Go.Sec Go.Oct Go.Pkt Go.Aes BigFrame

set_option maxRecDepth 100000 in
set_option maxHeartbeats 2000000 in
theorem pbare_any (a1 a2 : Option Addr) (n1 c1 n2 c2 : Nat) (p : Pkt) (w : World) (hI1 : Ib w a1 n1 p.plain) (hn1 : n1 ≤ 1000000) (hL1 : ∀ f ∈ p.plain, f.2.length ≤ 1000000) (h2 : p.secret.length = n2) :
    Calls Tryz.prog 19 #[.agg #[.int .i64 p.h.leap, .int .i64 p.h.ver, .int .i64 p.h.mode, .int .i64 p.h.strat, .int .i64 p.h.poll, .int .i64 p.h.prec, .int .u32 (n32 p.h.rd), .int .u32 (n32 p.h.rp), .int .u32 (n32 p.h.id), .int .u64 (n64 p.h.ref), .int .u64 (n64 p.h.org), .int .u64 (n64 p.h.rcv), .int .u64 (n64 p.h.tx), .slice a1 n1 c1, .slice a2 n2 c2, .bool p.guarded]] w (Read2 (bareE p).1.length (bareE p).1 (.int .i64 (bareE p).2) w) := by
  have ho := fun W H => popen_any p.h a1 a2 n1 c1 n2 c2 p.guarded p.plain W H hn1 hL1
  obtain ⟨r, hr⟩ : ∃ r, bareE p = r := ⟨_, rfl⟩
  rw [hr]
  have hr := Lib.hid hr
  go_enter Tryz.func19, Tryz.ntmps19
  go_wp2_with (first
    | (refine wpList_load_arr (RP16) rfl _ rfl (w.heap.size) (0) rfl ([.int .i64 p.h.leap, .int .i64 p.h.ver, .int .i64 p.h.mode, .int .i64 p.h.strat, .int .i64 p.h.poll, .int .i64 p.h.prec, .int .u32 (n32 p.h.rd), .int .u32 (n32 p.h.rp), .int .u32 (n32 p.h.id), .int .u64 (n64 p.h.ref), .int .u64 (n64 p.h.org), .int .u64 (n64 p.h.rcv), .int .u64 (n64 p.h.tx), .slice a1 n1 c1, .slice a2 n2 c2, .bool p.guarded]) (((Blk.new w #[.int .i64 p.h.leap, .int .i64 p.h.ver, .int .i64 p.h.mode, .int .i64 p.h.strat, .int .i64 p.h.poll, .int .i64 p.h.prec, .int .u32 (n32 p.h.rd), .int .u32 (n32 p.h.rp), .int .u32 (n32 p.h.id), .int .u64 (n64 p.h.ref), .int .u64 (n64 p.h.org), .int .u64 (n64 p.h.rcv), .int .u64 (n64 p.h.tx), .slice a1 n1 c1, .slice a2 n2 c2, .bool p.guarded] 32).extB (by repeat (first | (with_reducible first | exact Ext.refl _ | assumption | apply Ext.alloc | apply Ext.ext | apply Ext.drew | refine Ext.setCell ?_ ?_ _) | (focus (simp [go_sem]; done))))).rd) (rfl) ?_)
    | fail)
  refine nameCl ?_
  intro W hW
  have hE : Ext w W := by rw [hW]; exact (by repeat (first | (with_reducible first | exact Ext.refl _ | assumption | apply Ext.alloc | apply Ext.ext | apply Ext.drew | refine Ext.setCell ?_ ?_ _) | (focus (simp [go_sem]; done))))
  have hB : Blk W w.heap.size 32 [.int .i64 p.h.leap, .int .i64 p.h.ver, .int .i64 p.h.mode, .int .i64 p.h.strat, .int .i64 p.h.poll, .int .i64 p.h.prec, .int .u32 (n32 p.h.rd), .int .u32 (n32 p.h.rp), .int .u32 (n32 p.h.id), .int .u64 (n64 p.h.ref), .int .u64 (n64 p.h.org), .int .u64 (n64 p.h.rcv), .int .u64 (n64 p.h.tx), .slice a1 n1 c1, .slice a2 n2 c2, .bool p.guarded] := by rw [hW]; exact (by repeat (first | assumption | (refine Blk.newAt _ _ _ _ ?_; first | rfl | (simp only [World.size_alloc]; done)) | apply Blk.ext | apply Blk.alloc | (refine Blk.other ?_ ?_ _; rotate_left; (simp <;> omega))))
  clear hW
  (with_reducible refine (ho W (hI1.ext hE)).mono ?_)
  rintro e w1 ⟨b1, d1, rfl, hS1, hd1, hx1⟩
  have hE1 := hE.trans hx1
  have hB1 := hB.extB hx1
  haveI := hB1.blt
  have f14 : w1.cell? ⟨w.heap.size, 14, none⟩ = some (.slice a2 n2 c2) := hB1.cell? 14 rfl
  have f15 : w1.cell? ⟨w.heap.size, 15, none⟩ = some (.bool p.guarded) := hB1.cell? 15 rfl
  clear hE hB hx1 ho
  by_cases q3 : (openB p.h p.plain).2 = 0
  · rw [q3]
    by_cases q4 : 0 < n2
    · have er := Lib.hid (show r = ([], 3) by rw [← hr.out]; exact bareE_form q3 (.inl (List.ne_nil_of_length_pos (by omega))))
      have i4 : (0 : Int) < (n2 : Int) := by omega
      clear q3
      go_wp2_with fail
      go_ret2
      rw [er.out]
      exact read2_err _ _ _ hE1
    · have h0 : p.secret = [] := List.eq_nil_of_length_eq_zero (by omega)
      obtain rfl : n2 = 0 := by omega
      cases q5 : p.guarded
      · have er := Lib.hid (show r = ((openB p.h p.plain).1, 0) by rw [← hr.out, bareE_ok q3 (by rw [h0, q5]; simp)]; rw [← q3])
        rw [q5] at f15
        clear q3 h0 h2 q4
        go_wp2_with fail
        go_ret2
        rw [er.out]
        exact ⟨b1, d1, rfl, hS1, hd1, hE1⟩
      · have er := Lib.hid (show r = ([], 3) by rw [← hr.out]; exact bareE_form q3 (.inr q5))
        rw [q5] at f15
        clear q3 h0 h2 q4
        go_wp2_with fail
        go_ret2
        rw [er.out]
        exact read2_err _ _ _ hE1
  · have er := Lib.hid (show r = ([], (openB p.h p.plain).2) by rw [← hr.out]; exact bareE_open q3)
    have i3 := ne0 q3
    generalize (openB p.h p.plain).2 = v at *
    clear q3
    go_wp2_with fail
    go_ret2
    rw [er.out]
    exact read2_err _ _ _ hE1

def ReadOut (r : Pkt × Int) (w : World) (e : Ending) (w' : World) : Prop := ∃ a1 c1, e = .returned (.tuple #[.agg #[.int .i64 r.1.h.leap, .int .i64 r.1.h.ver, .int .i64 r.1.h.mode, .int .i64 r.1.h.strat, .int .i64 r.1.h.poll, .int .i64 r.1.h.prec, .int .u32 (n32 r.1.h.rd), .int .u32 (n32 r.1.h.rp), .int .u32 (n32 r.1.h.id), .int .u64 (n64 r.1.h.ref), .int .u64 (n64 r.1.h.org), .int .u64 (n64 r.1.h.rcv), .int .u64 (n64 r.1.h.tx), .slice a1 r.1.plain.length c1, .slice none 0 0, .bool false], .int .i64 r.2]) ∧
  (∃ B, OwnI 66 w' B a1 r.1.plain.length c1 r.1.plain) ∧ Ext w w'
theorem ReadOut.err (w w' : World) (e : Int) (hx : Ext w w') : ReadOut (zeroP, e) w (.returned (.tuple #[.agg #[.int .i64 0, .int .i64 0, .int .i64 0, .int .i64 0, .int .i64 0, .int .i64 0, .int .u32 0, .int .u32 0, .int .u32 0, .int .u64 0, .int .u64 0, .int .u64 0, .int .u64 0, .slice none 0 0, .slice none 0 0, .bool false], .int .i64 e])) w' := ⟨none, 0, rfl, ⟨0, OwnI.nil _ _ _⟩, hx⟩
set_option maxRecDepth 100000 in
set_option maxHeartbeats 2000000 in
theorem pread_any (a : Option Addr) (n c : Nat) (b : List UInt8) (w : World) (hS : Sl w a n b) (hc : n ≤ c) (hn : n ≤ 1000000) :
    Calls Tryz.prog 22 #[.slice a n c] w (ReadOut (readE b) w) := by
  have hl := hS.len
  have hdh := fun W H => pdecode_any a n c b W H hc hn
  have hrl := decH_rest (b := b)
  obtain ⟨r, hr⟩ : ∃ r, readE b = r := ⟨_, rfl⟩
  rw [hr]
  have hr := Lib.hid hr
  go_enter Tryz.func22, Tryz.ntmps22
  go_wp2_with fail
  refine nameCl ?_
  intro W hW
  have hE : Ext w W := by rw [hW]; exact (by repeat (first | (with_reducible first | exact Ext.refl _ | assumption | apply Ext.alloc | apply Ext.ext | apply Ext.drew | refine Ext.setCell ?_ ?_ _) | (focus (simp [go_sem]; done))))
  have hP : Blk W w.heap.size 32 [.int .i64 0, .int .i64 0, .int .i64 0, .int .i64 0, .int .i64 0, .int .i64 0, .int .u32 0, .int .u32 0, .int .u32 0, .int .u64 0, .int .u64 0, .int .u64 0, .int .u64 0, .slice none 0 0, .slice none 0 0, .bool false] := by rw [hW]; exact (by repeat (first | assumption | (refine Blk.newAt _ _ _ _ ?_; first | rfl | (simp only [World.size_alloc]; done)) | apply Blk.ext | apply Blk.alloc | (refine Blk.other ?_ ?_ _; rotate_left; (simp <;> omega))))
  clear hW
  (with_reducible refine (hdh W (hS.ext hE)).mono ?_)
  rintro e w1 ⟨b1, d1, rfl, hS1, hd1, hx1⟩
  have hE1 := hE.trans hx1
  have hP1 := hP.extB hx1
  haveI := hP1.blt
  clear hE hP hx1 hdh
  by_cases q1 : (decH b).2 = 0
  · rw [q1]
    have hdf := fun W H => xdecode_any b1 (decH b).1.2.length d1 (decH b).1.2 W H hd1 (by omega)
    have hok := fun h => readE_ok q1 h
    have hbad := fun h => readE_flds q1 h
    generalize (decH b).1.2 = R at *
    generalize (decH b).1.1 = H at *
    go_wp2_with (first
      | (refine wpList_alloc_store (RH13) rfl rfl _ _ rfl rfl rfl rfl (by simp [Act.put]) ([.int .i64 H.leap, .int .i64 H.ver, .int .i64 H.mode, .int .i64 H.strat, .int .i64 H.poll, .int .i64 H.prec, .int .u32 (n32 H.rd), .int .u32 (n32 H.rp), .int .u32 (n32 H.id), .int .u64 (n64 H.ref), .int .u64 (n64 H.org), .int .u64 (n64 H.rcv), .int .u64 (n64 H.tx)]) rfl (by simp) (rfl) ((by simp; repeat' (first | rfl | constructor))) ?_; intro x hz _)
      | fail)
    refine nameCl ?_
    intro W2 hW2
    have hx2 : Ext w1 W2 := by rw [hW2]; exact (by repeat (first | (with_reducible first | exact Ext.refl _ | assumption | apply Ext.alloc | apply Ext.ext | apply Ext.drew | refine Ext.setCell ?_ ?_ _) | (focus (simp [go_sem]; done))))
    have hzz : Blk W2 w1.heap.size 27 [.int .i64 H.leap, .int .i64 H.ver, .int .i64 H.mode, .int .i64 H.strat, .int .i64 H.poll, .int .i64 H.prec, .int .u32 (n32 H.rd), .int .u32 (n32 H.rp), .int .u32 (n32 H.id), .int .u64 (n64 H.ref), .int .u64 (n64 H.org), .int .u64 (n64 H.rcv), .int .u64 (n64 H.tx)] := by rw [hW2]; exact hz.extB (by repeat (first | (with_reducible first | exact Ext.refl _ | assumption | apply Ext.alloc | apply Ext.ext | apply Ext.drew | refine Ext.setCell ?_ ?_ _) | (focus (simp [go_sem]; done))))
    have hP2 := hP1.extB hx2
    have hE2 := hE1.trans hx2
    have hS2 := hS1.ext hx2
    have hlt := hP1.lt
    clear hW2 hx2 hE1 hP1 hS1
    (with_reducible refine (hdf W2 hS2).mono ?_)
    rintro e w3 ⟨b3, d3, rfl, hO3, hx3⟩
    have hP3 := hP2.extB hx3
    have hz3 := hzz.extB hx3
    have hE3 := hE2.trans hx3
    haveI := hP3.blt
    clear hP2 hE2 hdf hz hzz hx3
    by_cases q2 : (decF R).2 = 0
    · rw [q2]
      have er := Lib.hid (show r = (⟨H, (decF R).1, [], false⟩, 0) by rw [← hr.out]; exact hok q2)
      clear hok hbad q2
      generalize (decF R).1 = L at *
      go_wp2_with (first
        | (refine wpList_load_arr (RH13) rfl _ rfl (w1.heap.size) (0) rfl ([.int .i64 H.leap, .int .i64 H.ver, .int .i64 H.mode, .int .i64 H.strat, .int .i64 H.poll, .int .i64 H.prec, .int .u32 (n32 H.rd), .int .u32 (n32 H.rp), .int .u32 (n32 H.id), .int .u64 (n64 H.ref), .int .u64 (n64 H.org), .int .u64 (n64 H.rcv), .int .u64 (n64 H.tx)]) ((hz3.extB (by repeat (first | (with_reducible first | exact Ext.refl _ | assumption | apply Ext.alloc | apply Ext.ext | apply Ext.drew | refine Ext.setCell ?_ ?_ _) | (focus (simp [go_sem]; done))))).rd) (rfl) ?_)
        | (refine wpList_store_arr (RP16) rfl _ _ rfl (w.heap.size) (0) rfl ([.int .i64 H.leap, .int .i64 H.ver, .int .i64 H.mode, .int .i64 H.strat, .int .i64 H.poll, .int .i64 H.prec, .int .u32 (n32 H.rd), .int .u32 (n32 H.rp), .int .u32 (n32 H.id), .int .u64 (n64 H.ref), .int .u64 (n64 H.org), .int .u64 (n64 H.rcv), .int .u64 (n64 H.tx), .slice b3 L.length d3, .slice none 0 0, .bool false]) rfl (32) _ ((hP3.extB (by repeat (first | (with_reducible first | exact Ext.refl _ | assumption | apply Ext.alloc | apply Ext.ext | apply Ext.drew | refine Ext.setCell ?_ ?_ _) | (focus (simp [go_sem]; done)))))) (rfl) (by simp) ((by simp; repeat' (first | rfl | constructor))) ?_; intro V hV hMV)
        | fail)
      refine bodyPost_ret (results_arr_tmp Tryz.results22 (RP16) _ _ (w.heap.size) (0) ([.int .i64 H.leap, .int .i64 H.ver, .int .i64 H.mode, .int .i64 H.strat, .int .i64 H.poll, .int .i64 H.prec, .int .u32 (n32 H.rd), .int .u32 (n32 H.rp), .int .u32 (n32 H.id), .int .u64 (n64 H.ref), .int .u64 (n64 H.org), .int .u64 (n64 H.rcv), .int .u64 (n64 H.tx), .slice b3 L.length d3, .slice none 0 0, .bool false]) rfl (hV.rd) (rfl) (.int .i64 0) rfl) rfl ?_
      rw [er.out]
      exact ⟨b3, d3, rfl, ⟨_, hO3.mut hP3 (by decide) (by simp) hMV⟩, Below.trans hE3 (hMV.below (Nat.le_refl _) hE3.size)⟩
    · have er := Lib.hid (show r = (zeroP, (decF R).2) by rw [← hr.out]; exact hbad q2)
      have i2 := ne0 q2
      generalize (decF R).2 = v at *
      generalize (decF R).1 = L at *
      clear q2 hok hbad
      go_wp2_with (first
        | (refine wpList_store_arr (RP16) rfl _ _ rfl (w.heap.size) (0) rfl ([.int .i64 0, .int .i64 0, .int .i64 0, .int .i64 0, .int .i64 0, .int .i64 0, .int .u32 0, .int .u32 0, .int .u32 0, .int .u64 0, .int .u64 0, .int .u64 0, .int .u64 0, .slice none 0 0, .slice none 0 0, .bool false]) rfl (32) _ ((hP3.extB (by repeat (first | (with_reducible first | exact Ext.refl _ | assumption | apply Ext.alloc | apply Ext.ext | apply Ext.drew | refine Ext.setCell ?_ ?_ _) | (focus (simp [go_sem]; done)))))) (rfl) (by simp) ((by simp; repeat' (first | rfl | constructor))) ?_; intro V hV hMV)
        | fail)
      refine bodyPost_ret (results_arr_tmp Tryz.results22 (RP16) _ _ (w.heap.size) (0) ([.int .i64 0, .int .i64 0, .int .i64 0, .int .i64 0, .int .i64 0, .int .i64 0, .int .u32 0, .int .u32 0, .int .u32 0, .int .u64 0, .int .u64 0, .int .u64 0, .int .u64 0, .slice none 0 0, .slice none 0 0, .bool false]) rfl (hV.rd) (rfl) (.int .i64 v) rfl) rfl ?_
      rw [er.out]
      exact ReadOut.err _ _ _ (Below.trans (hE3.trans (by repeat (first | (with_reducible first | exact Ext.refl _ | assumption | apply Ext.alloc | apply Ext.ext | apply Ext.drew | refine Ext.setCell ?_ ?_ _) | (focus (simp [go_sem]; done))))) (hMV.below (Nat.le_refl _) (Below.size (hE3.trans (by repeat (first | (with_reducible first | exact Ext.refl _ | assumption | apply Ext.alloc | apply Ext.ext | apply Ext.drew | refine Ext.setCell ?_ ?_ _) | (focus (simp [go_sem]; done))))))))
  · have er := Lib.hid (show r = (zeroP, (decH b).2) by rw [← hr.out]; exact readE_head q1)
    have i1 := ne0 q1
    generalize (decH b).2 = v at *
    generalize (decH b).1.1 = H at *
    clear q1
    go_wp2_with (first
      | (refine wpList_alloc_store (RH13) rfl rfl _ _ rfl rfl rfl rfl (by simp [Act.put]) ([.int .i64 H.leap, .int .i64 H.ver, .int .i64 H.mode, .int .i64 H.strat, .int .i64 H.poll, .int .i64 H.prec, .int .u32 (n32 H.rd), .int .u32 (n32 H.rp), .int .u32 (n32 H.id), .int .u64 (n64 H.ref), .int .u64 (n64 H.org), .int .u64 (n64 H.rcv), .int .u64 (n64 H.tx)]) rfl (by simp) (rfl) ((by simp; repeat' (first | rfl | constructor))) ?_; intro x hz _)
      | (refine wpList_store_arr (RP16) rfl _ _ rfl (w.heap.size) (0) rfl ([.int .i64 0, .int .i64 0, .int .i64 0, .int .i64 0, .int .i64 0, .int .i64 0, .int .u32 0, .int .u32 0, .int .u32 0, .int .u64 0, .int .u64 0, .int .u64 0, .int .u64 0, .slice none 0 0, .slice none 0 0, .bool false]) rfl (32) _ ((hP1.extB (by repeat (first | (with_reducible first | exact Ext.refl _ | assumption | apply Ext.alloc | apply Ext.ext | apply Ext.drew | refine Ext.setCell ?_ ?_ _) | (focus (simp [go_sem]; done)))))) (rfl) (by simp) ((by simp; repeat' (first | rfl | constructor))) ?_; intro V hV hMV)
      | fail)
    refine bodyPost_ret (results_arr_tmp Tryz.results22 (RP16) _ _ (w.heap.size) (0) ([.int .i64 0, .int .i64 0, .int .i64 0, .int .i64 0, .int .i64 0, .int .i64 0, .int .u32 0, .int .u32 0, .int .u32 0, .int .u64 0, .int .u64 0, .int .u64 0, .int .u64 0, .slice none 0 0, .slice none 0 0, .bool false]) rfl (hV.rd) (rfl) (.int .i64 v) rfl) rfl ?_
    rw [er.out]
    exact ReadOut.err _ _ _ (Below.trans (hE1.trans (by repeat (first | (with_reducible first | exact Ext.refl _ | assumption | apply Ext.alloc | apply Ext.ext | apply Ext.drew | refine Ext.setCell ?_ ?_ _) | (focus (simp [go_sem]; done))))) (hMV.below (Nat.le_refl _) (Below.size (hE1.trans (by repeat (first | (with_reducible first | exact Ext.refl _ | assumption | apply Ext.alloc | apply Ext.ext | apply Ext.drew | refine Ext.setCell ?_ ?_ _) | (focus (simp [go_sem]; done))))))))
end Go.Proofs.YtdmifbfgeeldnaaGreat

/- The walks of layer 16 of the document: signed, Decode, Reply. -/
namespace Go.Pkt
open Go.Sec Go.RowKit Go.Oct
theorem shr6 (x : UInt8) : n8 (x >>> 6) = ((x.toNat / 64 : Nat) : Int) := all8 (p := fun x => n8 (x >>> 6) = ((x.toNat / 64 : Nat) : Int)) (by decide +kernel) x
theorem shr3 (x : UInt8) : n8 (x >>> 3 &&& 7) = ((x.toNat / 8 % 8 : Nat) : Int) := all8 (p := fun x => n8 (x >>> 3 &&& 7) = ((x.toNat / 8 % 8 : Nat) : Int)) (by decide +kernel) x
theorem low7 (x : UInt8) : n8 (x &&& 7) = ((x.toNat % 8 : Nat) : Int) := all8 (p := fun x => n8 (x &&& 7) = ((x.toNat % 8 : Nat) : Int)) (by decide +kernel) x
end Go.Pkt
namespace Go.Proofs.YtdmifbfgeeldnaaGreat
open Go.RowKit Go.Sec Go.Oct Go.Pkt BigFrame

set_option maxRecDepth 100000 in
theorem rhsigned_any (x : UInt8) (w : World) :
    Calls Tryz.prog 111 #[.int .u8 (n8 x)] w fun e w' => e = .returned (.int .i64 (sgn x)) ∧ Ext w w' := by
  by_cases h : x.toNat < 128
  · have e := Lib.hid (show sgn x = n8 x by unfold sgn n8; rw [if_pos h])
    have i1 : ¬ (127 : Int) < n8 x := by unfold n8; omega
    clear h
    go_enter Tryz.func111, Tryz.ntmps111
    go_wp2_with fail
    go_ret
    exact ⟨by rw [e.out]; rfl, (by repeat (first | (with_reducible first | exact Ext.refl _ | assumption | apply Ext.alloc | apply Ext.ext | apply Ext.drew | refine Ext.setCell ?_ ?_ _) | (focus (simp [go_sem]; done))))⟩
  · have e := Lib.hid (show sgn x = n8 x - 256 by unfold sgn n8; rw [if_neg h])
    have i1 : (127 : Int) < n8 x := by unfold n8; omega
    clear h
    go_enter Tryz.func111, Tryz.ntmps111
    go_wp2_with fail
    go_ret
    exact ⟨by show Ending.returned (.int .i64 (wrap64 (n8 x - 256))) = _; rw [← e.out, sgn64'], (by repeat (first | (with_reducible first | exact Ext.refl _ | assumption | apply Ext.alloc | apply Ext.ext | apply Ext.drew | refine Ext.setCell ?_ ?_ _) | (focus (simp [go_sem]; done))))⟩

set_option maxRecDepth 100000 in
set_option maxHeartbeats 4000000 in
theorem rhdecode_any (a : Option Addr) (n c : Nat) (b : List UInt8) (w : World) (hS : Sl w a n b) (hc : n ≤ c) (hn : n ≤ 1000000) :
    Calls Tryz.prog 66 #[.slice a n c] w (DecOut (decH b) w) := by
  have hl := hS.len
  by_cases h1 : n < 48
  · have er : decH b = ((zeroH, []), 1) := if_pos (by omega)
    rw [er]
    have i1 : (n : Int) < 48 := by omega
    clear hl
    go_enter Tryz.func66, Tryz.ntmps66
    go_wp2_with (first
      | (refine wpList_store_arr (RH13) rfl _ _ rfl (w.heap.size) (0) rfl ([.int .i64 0, .int .i64 0, .int .i64 0, .int .i64 0, .int .i64 0, .int .i64 0, .int .u32 0, .int .u32 0, .int .u32 0, .int .u64 0, .int .u64 0, .int .u64 0, .int .u64 0]) rfl (27) _ ((by repeat (first | assumption | (refine Blk.newAt _ _ _ _ ?_; first | rfl | (simp only [World.size_alloc]; done)) | apply Blk.ext | apply Blk.alloc | (refine Blk.other ?_ ?_ _; rotate_left; (simp <;> omega))))) (rfl) (by simp) (by first | exact one_u8 _ | (simp; done) | (simp; (repeat' (first | rfl | constructor)))) ?_; intro V hV hMV)
      | fail)
    refine bodyPost_ret (results_arr_tmp2 Tryz.results66 (RH13) _ _ (w.heap.size) (0) ([.int .i64 0, .int .i64 0, .int .i64 0, .int .i64 0, .int .i64 0, .int .i64 0, .int .u32 0, .int .u32 0, .int .u32 0, .int .u64 0, .int .u64 0, .int .u64 0, .int .u64 0]) rfl (hV.rd) (rfl) (.slice none 0 0) (.int .i64 1) rfl rfl) rfl ?_
    exact DecOut.err _ _ _ (Below.trans (b := w.alloc _) (by repeat (first | (with_reducible first | exact Ext.refl _ | assumption | apply Ext.alloc | apply Ext.ext | apply Ext.drew | refine Ext.setCell ?_ ?_ _) | (focus (simp [go_sem]; done)))) (hMV.below (by omega) (by simp)))
  · have i1 : ¬ (n : Int) < 48 := by omega
    by_cases h2 : 1280 < n
    · have er : decH b = ((zeroH, []), 2) := by unfold decH; rw [if_neg (by omega), if_pos (by omega)]
      rw [er]
      have i2 : (1280 : Int) < (n : Int) := by omega
      clear hl
      go_enter Tryz.func66, Tryz.ntmps66
      go_wp2_with (first
        | (refine wpList_store_arr (RH13) rfl _ _ rfl (w.heap.size) (0) rfl ([.int .i64 0, .int .i64 0, .int .i64 0, .int .i64 0, .int .i64 0, .int .i64 0, .int .u32 0, .int .u32 0, .int .u32 0, .int .u64 0, .int .u64 0, .int .u64 0, .int .u64 0]) rfl (27) _ ((by repeat (first | assumption | (refine Blk.newAt _ _ _ _ ?_; first | rfl | (simp only [World.size_alloc]; done)) | apply Blk.ext | apply Blk.alloc | (refine Blk.other ?_ ?_ _; rotate_left; (simp <;> omega))))) (rfl) (by simp) (by first | exact one_u8 _ | (simp; done) | (simp; (repeat' (first | rfl | constructor)))) ?_; intro V hV hMV)
        | fail)
      refine bodyPost_ret (results_arr_tmp2 Tryz.results66 (RH13) _ _ (w.heap.size) (0) ([.int .i64 0, .int .i64 0, .int .i64 0, .int .i64 0, .int .i64 0, .int .i64 0, .int .u32 0, .int .u32 0, .int .u32 0, .int .u64 0, .int .u64 0, .int .u64 0, .int .u64 0]) rfl (hV.rd) (rfl) (.slice none 0 0) (.int .i64 2) rfl rfl) rfl ?_
      exact DecOut.err _ _ _ (Below.trans (b := w.alloc _) (by repeat (first | (with_reducible first | exact Ext.refl _ | assumption | apply Ext.alloc | apply Ext.ext | apply Ext.drew | refine Ext.setCell ?_ ?_ _) | (focus (simp [go_sem]; done)))) (hMV.below (by omega) (by simp)))
    · have i2 : ¬ (1280 : Int) < (n : Int) := by omega
      obtain ⟨r, hr⟩ : ∃ r, decH b = r := ⟨_, rfl⟩
      have hr1 : (rdH b).ver = 4 ∨ (rdH b).ver = 3 → r = ((rdH b, b.drop 48), 0) := fun h => by rw [← hr]; unfold decH; rw [if_neg (by omega), if_neg (by omega), if_pos h]
      have hr2 : ¬ ((rdH b).ver = 4 ∨ (rdH b).ver = 3) → r = ((zeroH, []), 3) := fun h => by rw [← hr]; unfold decH; rw [if_neg (by omega), if_neg (by omega), if_neg h]
      rw [hr]
      clear hr
      obtain ⟨f, hf⟩ : ∃ f : Nat → UInt8, ∀ o, b.getD o 0 = f o := ⟨_, fun _ => rfl⟩
      obtain ⟨b0, o0, rfl, hb0, -⟩ := hS.at 0 (by omega)
      have hce : ∀ k, k < n → w.cell? ⟨b0, o0 + k, none⟩ = some (.int .u8 (n8 (f k))) := fun k hk => by
        obtain ⟨b1, o1, e1, _, hc1⟩ := hS.at k hk
        injection e1 with e1
        injection e1 with e1 e2
        subst e1 e2
        rw [hc1, ← hf k, List.getD_eq_getElem?_getD, List.getElem?_eq_getElem (by omega)]; rfl
      have hsl : ∀ k m, k < n → m ≤ n - k → Sl w (some ⟨b0, o0 + k, none⟩) m ((b.drop k).take m) := fun k m hk hm => (sl_at hS hc hk).take m hm
      have hg : ∀ k m, m ≤ 8 → ∀ W, Sl W (some ⟨b0, o0 + k, none⟩) m ((b.drop k).take m) → Calls Tryz.prog 100 #[.slice (some ⟨b0, o0 + k, none⟩) m (c - k)] W fun e w' => e = .returned (.int .u64 (n64 (getU b k m))) ∧ Ext W w' := fun k m hm W H => rget_any _ m (c - k) _ W H (by omega)
      have z0 := Lib.hid (show n8 (f 0 >>> 6) = (rdH b).leap by rw [← hf]; exact shr6 _)
      have z1 := Lib.hid (show n8 (f 0 >>> 3 &&& 7) = (rdH b).ver by rw [← hf]; exact shr3 _)
      have z2 := Lib.hid (show n8 (f 0 &&& 7) = (rdH b).mode by rw [← hf]; exact low7 _)
      have z3 := Lib.hid (show n8 (f 1) = (rdH b).strat by rw [← hf]; rfl)
      have z4 := Lib.hid (show sgn (f 2) = (rdH b).poll by rw [← hf]; rfl)
      have z5 := Lib.hid (show sgn (f 3) = (rdH b).prec by rw [← hf]; rfl)
      go_enter Tryz.func66, Tryz.ntmps66
      go_wp2_with fail
      refine nameW ?_
      intro W hW
      have hE : Ext w W := by rw [hW]; exact (by repeat (first | (with_reducible first | exact Ext.refl _ | assumption | apply Ext.alloc | apply Ext.ext | apply Ext.drew | refine Ext.setCell ?_ ?_ _) | (focus (simp [go_sem]; done))))
      have hH : Blk W w.heap.size 27 [.int .i64 0, .int .i64 0, .int .i64 0, .int .i64 0, .int .i64 0, .int .i64 0, .int .u32 0, .int .u32 0, .int .u32 0, .int .u64 0, .int .u64 0, .int .u64 0, .int .u64 0] := by rw [hW]; exact (by repeat (first | assumption | (refine Blk.newAt _ _ _ _ ?_; first | rfl | (simp only [World.size_alloc]; done)) | apply Blk.ext | apply Blk.alloc | (refine Blk.other ?_ ?_ _; rotate_left; (simp <;> omega))))
      clear hW
      haveI := BlkLt.mk (Nat.lt_of_lt_of_le hb0.lt hE.size)
      have hce := fun k hk => (hE.cell (p := ⟨b0, o0 + k, none⟩) hb0.lt).trans (hce k hk)
      have hsl := fun k m h1 h2 => (hsl k m h1 h2).ext hE
      have k0 := hce 0 (by omega)
      have k1 := hce 1 (by omega)
      have k2 := hce 2 (by omega)
      have k3 := hce 3 (by omega)
      rw [Nat.add_zero] at k0
      have j0 : (1 : Int) < (n : Int) := by omega
      have j1 : 0 < n := by omega
      have j2 : (2 : Int) < (n : Int) := by omega
      have j3 : (3 : Int) < (n : Int) := by omega
      have d4 : ¬ c = 4 := by omega
      have d8 : ¬ c = 8 := by omega
      have d12 : ¬ c = 12 := by omega
      have d16 : ¬ c = 16 := by omega
      have d24 : ¬ c = 24 := by omega
      have d32 : ¬ c = 32 := by omega
      have d40 : ¬ c = 40 := by omega
      have j8 : (8 : Int) ≤ (c : Int) := by omega
      have j12 : (12 : Int) ≤ (c : Int) := by omega
      have j16 : (16 : Int) ≤ (c : Int) := by omega
      have j24 : (24 : Int) ≤ (c : Int) := by omega
      have j32 : (32 : Int) ≤ (c : Int) := by omega
      have j40 : (40 : Int) ≤ (c : Int) := by omega
      have j48 : (48 : Int) ≤ (c : Int) := by omega
      clear hce hf
      refine R2.wp_region_vague 54 [[], [0], [0, 1], [0, 1, 2], [0, 1, 2, 3], [], [5], [5, 6], [5, 6, 7], [5, 6, 7, 8], [5, 6, 7, 8, 9], [], [11], [11, 12], [11, 12, 13], [11, 12, 13, 14], [], [16], [16, 17], [16, 17, 18], [], [20], [20, 21], [20, 21, 22], [], [24], [24, 25], [20, 21, 22, 23, 24, 25, 26], [], [28], [20, 21, 22, 23, 24, 25, 26, 27, 28, 29], [20, 21, 22, 23, 24, 25, 26, 27, 28, 29, 30], [], [32], [20, 21, 22, 23, 24, 25, 26, 27, 28, 29, 30, 32, 33], [20, 21, 22, 23, 24, 25, 26, 27, 28, 29, 30, 32, 33, 34], [], [36], [20, 21, 22, 23, 24, 25, 26, 27, 28, 29, 30, 32, 33, 34, 36, 37], [20, 21, 22, 23, 24, 25, 26, 27, 28, 29, 30, 32, 33, 34, 36, 37, 38], [], [40], [20, 21, 22, 23, 24, 25, 26, 27, 28, 29, 30, 32, 33, 34, 36, 37, 38, 40, 41], [], [43], [20, 21, 22, 23, 24, 25, 26, 27, 28, 29, 30, 32, 33, 34, 36, 37, 38, 40, 41, 42, 43, 44], [], [46], [20, 21, 22, 23, 24, 25, 26, 27, 28, 29, 30, 32, 33, 34, 36, 37, 38, 40, 41, 42, 43, 44, 45, 46, 47], [], [49], [20, 21, 22, 23, 24, 25, 26, 27, 28, 29, 30, 32, 33, 34, 36, 37, 38, 40, 41, 42, 43, 44, 45, 46, 47, 48, 49, 50], [0, 1, 2, 3, 4, 5, 6, 7, 8, 9, 10, 11, 12, 13, 14, 15, 16, 17, 18, 19, 20, 21, 22, 23, 24, 25, 26, 27, 28, 29, 30, 31, 32, 33, 34, 35, 36, 37, 38, 39, 40, 41, 42, 43, 44, 45, 46, 47, 48, 49, 50, 51], [], [0, 1, 2, 3, 4, 5, 6, 7, 8, 9, 10, 11, 12, 13, 14, 15, 16, 17, 18, 19, 20, 21, 22, 23, 24, 25, 26, 27, 28, 29, 30, 31, 32, 33, 34, 35, 36, 37, 38, 39, 40, 41, 42, 43, 44, 45, 46, 47, 48, 49, 50, 51, 52, 53]] (by kernel_rfl) (by kernel_rfl) (by kernel_rfl) (by kernel_rfl) ?_; simp only [List.take_succ_cons, List.take_zero, List.drop_succ_cons, List.drop_zero, List.take_nil, List.drop_nil]
      (repeat (apply R2.VD_der; (case h => (intro us w' hx hf; obtain ⟨x, rfl⟩ := hx.out; refine ⟨rfl, ?_⟩; simp [go_sem, execOp, *]; (try simp (disch := omega) only [Go.IntWalk.i64_in, Go.IntWalk.rem_in, Go.IntWalk.wrap64_in]); rfl)); (try simp only [Act.put, List.setIfInBounds_toArray, List.set_cons_succ, List.set_cons_zero])))
      (refine R2.VD_vag (fun _ => .int .i64 (sgn (f 2))) (fun _ _ => True) (fun _ _ _ _ _ => trivial) (fun us w' hx hf => ⟨rfl, ?_⟩) ?_; (unfold gives; simp [go_sem, execOp]; refine (rhsigned_any (f 2) _).mono ?_; rintro e w1 ⟨rfl, hx1⟩; first | exact ⟨rfl, hx1⟩ | simpa using hx1))
      (repeat (apply R2.VD_der; (case h => (intro us w' hx hf; obtain ⟨x, rfl⟩ := hx.out; refine ⟨rfl, ?_⟩; simp [go_sem, execOp, *]; (try simp (disch := omega) only [Go.IntWalk.i64_in, Go.IntWalk.rem_in, Go.IntWalk.wrap64_in]); rfl)); (try simp only [Act.put, List.setIfInBounds_toArray, List.set_cons_succ, List.set_cons_zero])))
      (refine R2.VD_vag (fun _ => .int .i64 (sgn (f 3))) (fun _ _ => True) (fun _ _ _ _ _ => trivial) (fun us w' hx hf => ⟨rfl, ?_⟩) ?_; (unfold gives; simp [go_sem, execOp]; refine (rhsigned_any (f 3) _).mono ?_; rintro e w1 ⟨rfl, hx1⟩; first | exact ⟨rfl, hx1⟩ | simpa using hx1))
      (repeat (apply R2.VD_der; (case h => (intro us w' hx hf; obtain ⟨x, rfl⟩ := hx.out; refine ⟨rfl, ?_⟩; simp [go_sem, execOp, *]; (try simp (disch := omega) only [Go.IntWalk.i64_in, Go.IntWalk.rem_in, Go.IntWalk.wrap64_in]); rfl)); (try simp only [Act.put, List.setIfInBounds_toArray, List.set_cons_succ, List.set_cons_zero])))
      (refine R2.VD_vag (fun _ => .int .u64 (n64 (getU b 4 4))) (fun _ _ => True) (fun _ _ _ _ _ => trivial) (fun us w' hx hf => ⟨rfl, ?_⟩) ?_; (unfold gives; simp [go_sem, execOp]; refine (hg 4 4 (by omega) _ ((hsl 4 4 (by omega) (by omega)).ext hx)).mono ?_; rintro e w1 ⟨rfl, hx1⟩; first | exact ⟨rfl, hx1⟩ | simpa using hx1))
      (repeat (apply R2.VD_der; (case h => (intro us w' hx hf; obtain ⟨x, rfl⟩ := hx.out; refine ⟨rfl, ?_⟩; simp [go_sem, execOp, *]; (try simp (disch := omega) only [Go.IntWalk.i64_in, Go.IntWalk.rem_in, Go.IntWalk.wrap64_in]); rfl)); (try simp only [Act.put, List.setIfInBounds_toArray, List.set_cons_succ, List.set_cons_zero])))
      (refine R2.VD_vag (fun _ => .int .u64 (n64 (getU b 8 4))) (fun _ _ => True) (fun _ _ _ _ _ => trivial) (fun us w' hx hf => ⟨rfl, ?_⟩) ?_; (unfold gives; simp [go_sem, execOp]; refine (hg 8 4 (by omega) _ ((hsl 8 4 (by omega) (by omega)).ext hx)).mono ?_; rintro e w1 ⟨rfl, hx1⟩; first | exact ⟨rfl, hx1⟩ | simpa using hx1))
      (repeat (apply R2.VD_der; (case h => (intro us w' hx hf; obtain ⟨x, rfl⟩ := hx.out; refine ⟨rfl, ?_⟩; simp [go_sem, execOp, *]; (try simp (disch := omega) only [Go.IntWalk.i64_in, Go.IntWalk.rem_in, Go.IntWalk.wrap64_in]); rfl)); (try simp only [Act.put, List.setIfInBounds_toArray, List.set_cons_succ, List.set_cons_zero])))
      (refine R2.VD_vag (fun _ => .int .u64 (n64 (getU b 12 4))) (fun _ _ => True) (fun _ _ _ _ _ => trivial) (fun us w' hx hf => ⟨rfl, ?_⟩) ?_; (unfold gives; simp [go_sem, execOp]; refine (hg 12 4 (by omega) _ ((hsl 12 4 (by omega) (by omega)).ext hx)).mono ?_; rintro e w1 ⟨rfl, hx1⟩; first | exact ⟨rfl, hx1⟩ | simpa using hx1))
      (repeat (apply R2.VD_der; (case h => (intro us w' hx hf; obtain ⟨x, rfl⟩ := hx.out; refine ⟨rfl, ?_⟩; simp [go_sem, execOp, *]; (try simp (disch := omega) only [Go.IntWalk.i64_in, Go.IntWalk.rem_in, Go.IntWalk.wrap64_in]); rfl)); (try simp only [Act.put, List.setIfInBounds_toArray, List.set_cons_succ, List.set_cons_zero])))
      (refine R2.VD_vag (fun _ => .int .u64 (n64 (getU b 16 8))) (fun _ _ => True) (fun _ _ _ _ _ => trivial) (fun us w' hx hf => ⟨rfl, ?_⟩) ?_; (unfold gives; simp [go_sem, execOp]; refine (hg 16 8 (by omega) _ ((hsl 16 8 (by omega) (by omega)).ext hx)).mono ?_; rintro e w1 ⟨rfl, hx1⟩; first | exact ⟨rfl, hx1⟩ | simpa using hx1))
      (repeat (apply R2.VD_der; (case h => (intro us w' hx hf; obtain ⟨x, rfl⟩ := hx.out; refine ⟨rfl, ?_⟩; simp [go_sem, execOp, *]; (try simp (disch := omega) only [Go.IntWalk.i64_in, Go.IntWalk.rem_in, Go.IntWalk.wrap64_in]); rfl)); (try simp only [Act.put, List.setIfInBounds_toArray, List.set_cons_succ, List.set_cons_zero])))
      (refine R2.VD_vag (fun _ => .int .u64 (n64 (getU b 24 8))) (fun _ _ => True) (fun _ _ _ _ _ => trivial) (fun us w' hx hf => ⟨rfl, ?_⟩) ?_; (unfold gives; simp [go_sem, execOp]; refine (hg 24 8 (by omega) _ ((hsl 24 8 (by omega) (by omega)).ext hx)).mono ?_; rintro e w1 ⟨rfl, hx1⟩; first | exact ⟨rfl, hx1⟩ | simpa using hx1))
      (repeat (apply R2.VD_der; (case h => (intro us w' hx hf; obtain ⟨x, rfl⟩ := hx.out; refine ⟨rfl, ?_⟩; simp [go_sem, execOp, *]; (try simp (disch := omega) only [Go.IntWalk.i64_in, Go.IntWalk.rem_in, Go.IntWalk.wrap64_in]); rfl)); (try simp only [Act.put, List.setIfInBounds_toArray, List.set_cons_succ, List.set_cons_zero])))
      (refine R2.VD_vag (fun _ => .int .u64 (n64 (getU b 32 8))) (fun _ _ => True) (fun _ _ _ _ _ => trivial) (fun us w' hx hf => ⟨rfl, ?_⟩) ?_; (unfold gives; simp [go_sem, execOp]; refine (hg 32 8 (by omega) _ ((hsl 32 8 (by omega) (by omega)).ext hx)).mono ?_; rintro e w1 ⟨rfl, hx1⟩; first | exact ⟨rfl, hx1⟩ | simpa using hx1))
      (repeat (apply R2.VD_der; (case h => (intro us w' hx hf; obtain ⟨x, rfl⟩ := hx.out; refine ⟨rfl, ?_⟩; simp [go_sem, execOp, *]; (try simp (disch := omega) only [Go.IntWalk.i64_in, Go.IntWalk.rem_in, Go.IntWalk.wrap64_in]); rfl)); (try simp only [Act.put, List.setIfInBounds_toArray, List.set_cons_succ, List.set_cons_zero])))
      (refine R2.VD_vag (fun _ => .int .u64 (n64 (getU b 40 8))) (fun _ _ => True) (fun _ _ _ _ _ => trivial) (fun us w' hx hf => ⟨rfl, ?_⟩) ?_; (unfold gives; simp [go_sem, execOp]; refine (hg 40 8 (by omega) _ ((hsl 40 8 (by omega) (by omega)).ext hx)).mono ?_; rintro e w1 ⟨rfl, hx1⟩; first | exact ⟨rfl, hx1⟩ | simpa using hx1))
      (repeat (apply R2.VD_der; (case h => (intro us w' hx hf; obtain ⟨x, rfl⟩ := hx.out; refine ⟨rfl, ?_⟩; simp [go_sem, execOp, *]; (try simp (disch := omega) only [Go.IntWalk.i64_in, Go.IntWalk.rem_in, Go.IntWalk.wrap64_in]); rfl)); (try simp only [Act.put, List.setIfInBounds_toArray, List.set_cons_succ, List.set_cons_zero])))
      (refine R2.VD_alloc _ ([.int .i64 0, .int .i64 0, .int .i64 0, .int .i64 0, .int .i64 0, .int .i64 0, .int .u32 0, .int .u32 0, .int .u32 0, .int .u64 0, .int .u64 0, .int .u64 0, .int .u64 0]) Tryz.zeroValue27 rfl rfl rfl ?_)
      (refine R2.VD_nil ?_; intro us w' hx hf hd; obtain ⟨x, rfl⟩ := hx.out; (try simp only [Act.put, List.setIfInBounds_toArray, List.set_cons_succ, List.set_cons_zero, wpList_none]); (try simp only [List.mem_cons, List.not_mem_nil, or_false, forall_eq_or_imp, forall_eq, List.nil_append, List.cons_append, List.mem_append, false_or, true_and, and_true] at hf); (try simp only [Nat.reduceAdd, Nat.zero_add] at hf); (try simp only [Nat.reduceAdd, Nat.zero_add]))
      obtain ⟨g, eg, hgW, hBg⟩ := hf
      rw [eg]
      have hx5 : Ext W (W.ext x) := Ext.of_ext _ _
      have hgE := Nat.le_trans hE.size hgW
      have hne : w.heap.size ≠ g := by have := hH.lt; omega
      have hH := hH.extB hx5
      have hE := hE.trans hx5
      have hS := hS.ext hE
      clear k0 k1 k2 k3 hsl hg hd eg hx5
      generalize W.ext x = W6 at *
      rw [z0.out, z1.out, z2.out, z3.out, z4.out, z5.out]
      clear z0 z1 z2 z3 z4 z5 d4 d8 d12 d16 d24 d32 d40 j0 j1 j2 j3 j8 j12 j16 j24 j32 j40
      haveI := hBg.blt
      haveI := hH.blt
      by_cases v3 : (rdH b).ver = 3
      · have er := Lib.hid (hr1 (.inr v3))
        have i3 : ((rdH b).ver != 3) = false := by rw [bne_eq_false_iff_eq]; exact v3
        clear hr1 hr2 v3
        go_wp2_with (first
          | ((refine wpList_store_arr (RH13) rfl _ _ rfl (g) (0) rfl ([.int .i64 (rdH b).leap, .int .i64 (rdH b).ver, .int .i64 (rdH b).mode, .int .i64 (rdH b).strat, .int .i64 (rdH b).poll, .int .i64 (rdH b).prec, .int .u32 (n32 (rdH b).rd), .int .u32 (n32 (rdH b).rp), .int .u32 (n32 (rdH b).id), .int .u64 (n64 (rdH b).ref), .int .u64 (n64 (rdH b).org), .int .u64 (n64 (rdH b).rcv), .int .u64 (n64 (rdH b).tx)]) rfl (27) _ (hBg) (rfl) (by simp) ((by simp; repeat' (first | rfl | constructor))) ?_; intro V hV0 hMV); have hV : Blk V g 27 [.int .i64 (rdH b).leap, .int .i64 (rdH b).ver, .int .i64 (rdH b).mode, .int .i64 (rdH b).strat, .int .i64 (rdH b).poll, .int .i64 (rdH b).prec, .int .u32 (n32 (rdH b).rd), .int .u32 (n32 (rdH b).rp), .int .u32 (n32 (rdH b).id), .int .u64 (n64 (rdH b).ref), .int .u64 (n64 (rdH b).org), .int .u64 (n64 (rdH b).rcv), .int .u64 (n64 (rdH b).tx)] := hV0; clear hV0; haveI := hV.blt; have q1 := hV.cell? 1 rfl; have hHV := Blk.turn hMV hH hne; haveI := hHV.blt)
          | (fail)
          | fail)
        have hEV : Ext w V := Below.trans hE (hMV.below hgE hE.size)
        have hSV := hS.mut hBg (by simp) hMV
        clear q1 hS hBg hH hE hMV
        have hcd : n - 48 ≤ c - 48 := by omega
        obtain ⟨A, hA, hSA⟩ : ∃ A, (if c = 48 then some (⟨b0, o0, none⟩ : Addr) else some ⟨b0, o0 + 48, none⟩) = A ∧ Sl V A (n - 48) (b.drop 48) := ⟨_, rfl, by have := hSV.drop c 48 hc; simpa [sAdr, addr_add] using this⟩
        have hdl : (b.drop 48).length = n - 48 := hSA.len
        have j48 : (48 : Int) ≤ (n : Int) := by omega
        have j48c : (48 : Int) ≤ (c : Int) := by omega
        refine wp_region_vague 5 [[], [], [1], [1, 2], [1, 2, 3], [0, 1, 2, 3, 4], [0, 1, 2, 3, 4, 5], [0, 1, 2, 3, 4, 5, 6]] (by kernel_rfl) (by kernel_rfl) (by kernel_rfl) (by kernel_rfl) ?_; simp only [List.take_succ_cons, List.take_zero, List.drop_succ_cons, List.drop_zero, List.take_nil, List.drop_nil]
        (refine VD_load_arr (RH13) _ rfl (fun _ => rfl) (g) (0) (fun _ => by simp [go_sem]) ([.int .i64 (rdH b).leap, .int .i64 (rdH b).ver, .int .i64 (rdH b).mode, .int .i64 (rdH b).strat, .int .i64 (rdH b).poll, .int .i64 (rdH b).prec, .int .u32 (n32 (rdH b).rd), .int .u32 (n32 (rdH b).rp), .int .u32 (n32 (rdH b).id), .int .u64 (n64 (rdH b).ref), .int .u64 (n64 (rdH b).org), .int .u64 (n64 (rdH b).rcv), .int .u64 (n64 (rdH b).tx)]) (hV.rd) (rfl) ?_)
        (repeat (apply VD_der; (case h => (intro us w' hx hf; obtain ⟨x, rfl⟩ := hx.out; refine ⟨rfl, ?_⟩; simp [go_sem, execOp, *]; (try simp (disch := omega) only [Go.IntWalk.i64_in, Go.IntWalk.rem_in, Go.IntWalk.wrap64_in]); rfl)); (try simp only [Act.put, List.setIfInBounds_toArray, List.set_cons_succ, List.set_cons_zero])))
        (refine VD_vag (fun p => .slice (p 0).1 (1) (1)) (fun p w'' => Bss w'' (p 0).1 (1) ([b.drop 48])) (fun p w w' h hx => h.ext hx) (fun us w' hx hf => ⟨rfl, ?_⟩) ?_; (unfold gives; simp [go_sem, execOp]; exact ⟨fun _ => (some ⟨w'.heap.size, 0, none⟩, 0), rfl, Ext.of_alloc _ _, bss1 (hSA.ext hx) _⟩))
        (refine VD_vag (fun p => .slice (p 0).1 (n - 48) (p 0).2) (fun p w'' => Own w'' 0 (p 0).1 (n - 48) (p 0).2 (b.drop 48)) (fun p w w' h hx => h.ext hx) (fun us w' hx hf => ⟨rfl, ?_⟩) ?_; (unfold gives; simp [go_sem, execOp]; exact vag_fresh (Nat.zero_le _) ((by have := join_any _ 1 1 [b.drop 48] w' (by exact (hf _ (List.mem_append_right _ (List.mem_singleton_self _)) rfl)) (by omega) (n - 48) (by rw [joinL1]; exact hdl) (by omega); rw [joinL1] at this; exact this))))
        (refine VD_nil ?_; intro us w' hx hf; obtain ⟨x, rfl⟩ := hx.out; (try simp only [Act.put, List.setIfInBounds_toArray, List.set_cons_succ, List.set_cons_zero, wpList_none]); (try simp only [List.mem_cons, List.not_mem_nil, or_false, forall_eq_or_imp, forall_eq, List.nil_append, List.cons_append, List.mem_append, false_or, true_and, and_true] at hf); (try simp only [Nat.reduceAdd, Nat.zero_add] at hf); (try simp only [Nat.reduceAdd, Nat.zero_add]))
        obtain ⟨-, hO⟩ := hf
        obtain ⟨a5, ha5⟩ : ∃ a, (us 4 0).1 = a := ⟨_, rfl⟩
        obtain ⟨c5, hc5⟩ : ∃ a, (us 4 0).2 = a := ⟨_, rfl⟩
        rw [ha5, hc5] at hO ⊢
        clear ha5 hc5
        have hxx : Ext V (V.ext x) := Ext.of_ext _ _
        have hHx := hHV.extB hxx
        have hEx := hEV.trans hxx
        generalize V.ext x = V5 at *
        go_wp2_with (first
          | (refine wpList_store_arr (RH13) rfl _ _ rfl (w.heap.size) (0) rfl ([.int .i64 (rdH b).leap, .int .i64 (rdH b).ver, .int .i64 (rdH b).mode, .int .i64 (rdH b).strat, .int .i64 (rdH b).poll, .int .i64 (rdH b).prec, .int .u32 (n32 (rdH b).rd), .int .u32 (n32 (rdH b).rp), .int .u32 (n32 (rdH b).id), .int .u64 (n64 (rdH b).ref), .int .u64 (n64 (rdH b).org), .int .u64 (n64 (rdH b).rcv), .int .u64 (n64 (rdH b).tx)]) rfl (27) _ (hHx) (rfl) (by simp) ((by simp; repeat' (first | rfl | constructor))) ?_; intro U hU hMU)
          | fail)
        refine bodyPost_ret (results_arr_tmp2 Tryz.results66 (RH13) _ _ (w.heap.size) (0) ([.int .i64 (rdH b).leap, .int .i64 (rdH b).ver, .int .i64 (rdH b).mode, .int .i64 (rdH b).strat, .int .i64 (rdH b).poll, .int .i64 (rdH b).prec, .int .u32 (n32 (rdH b).rd), .int .u32 (n32 (rdH b).rp), .int .u32 (n32 (rdH b).id), .int .u64 (n64 (rdH b).ref), .int .u64 (n64 (rdH b).org), .int .u64 (n64 (rdH b).rcv), .int .u64 (n64 (rdH b).tx)]) rfl (hU.rd) (rfl) (.slice a5 (n - 48) c5) (.int .i64 0) rfl rfl) rfl ?_
        have hOV := Sl.mut hO.sl hHx (by simp) hMU
        rw [er.out]
        exact ⟨a5, c5, by rw [hdl], by rw [hdl]; exact hOV, by rw [hdl]; exact hO.le.1, Below.trans hEx (hMU.below (by omega) hEx.size)⟩
      · by_cases v4 : (rdH b).ver = 4
        · have er := Lib.hid (hr1 (.inl v4))
          have i3 : ((rdH b).ver != 3) = true := by rw [bne_iff_ne]; exact v3
          have i4 : ((rdH b).ver != 4) = false := by rw [bne_eq_false_iff_eq]; exact v4
          clear hr1 hr2 v3 v4
          go_wp2_with (first
            | ((refine wpList_store_arr (RH13) rfl _ _ rfl (g) (0) rfl ([.int .i64 (rdH b).leap, .int .i64 (rdH b).ver, .int .i64 (rdH b).mode, .int .i64 (rdH b).strat, .int .i64 (rdH b).poll, .int .i64 (rdH b).prec, .int .u32 (n32 (rdH b).rd), .int .u32 (n32 (rdH b).rp), .int .u32 (n32 (rdH b).id), .int .u64 (n64 (rdH b).ref), .int .u64 (n64 (rdH b).org), .int .u64 (n64 (rdH b).rcv), .int .u64 (n64 (rdH b).tx)]) rfl (27) _ (hBg) (rfl) (by simp) ((by simp; repeat' (first | rfl | constructor))) ?_; intro V hV0 hMV); have hV : Blk V g 27 [.int .i64 (rdH b).leap, .int .i64 (rdH b).ver, .int .i64 (rdH b).mode, .int .i64 (rdH b).strat, .int .i64 (rdH b).poll, .int .i64 (rdH b).prec, .int .u32 (n32 (rdH b).rd), .int .u32 (n32 (rdH b).rp), .int .u32 (n32 (rdH b).id), .int .u64 (n64 (rdH b).ref), .int .u64 (n64 (rdH b).org), .int .u64 (n64 (rdH b).rcv), .int .u64 (n64 (rdH b).tx)] := hV0; clear hV0; haveI := hV.blt; have q1 := hV.cell? 1 rfl; have hHV := Blk.turn hMV hH hne; haveI := hHV.blt)
            | (fail)
            | fail)
          have hEV : Ext w V := Below.trans hE (hMV.below hgE hE.size)
          have hSV := hS.mut hBg (by simp) hMV
          clear q1 hS hBg hH hE hMV
          have hcd : n - 48 ≤ c - 48 := by omega
          obtain ⟨A, hA, hSA⟩ : ∃ A, (if c = 48 then some (⟨b0, o0, none⟩ : Addr) else some ⟨b0, o0 + 48, none⟩) = A ∧ Sl V A (n - 48) (b.drop 48) := ⟨_, rfl, by have := hSV.drop c 48 hc; simpa [sAdr, addr_add] using this⟩
          have hdl : (b.drop 48).length = n - 48 := hSA.len
          have j48 : (48 : Int) ≤ (n : Int) := by omega
          have j48c : (48 : Int) ≤ (c : Int) := by omega
          refine wp_region_vague 5 [[], [], [1], [1, 2], [1, 2, 3], [0, 1, 2, 3, 4], [0, 1, 2, 3, 4, 5], [0, 1, 2, 3, 4, 5, 6]] (by kernel_rfl) (by kernel_rfl) (by kernel_rfl) (by kernel_rfl) ?_; simp only [List.take_succ_cons, List.take_zero, List.drop_succ_cons, List.drop_zero, List.take_nil, List.drop_nil]
          (refine VD_load_arr (RH13) _ rfl (fun _ => rfl) (g) (0) (fun _ => by simp [go_sem]) ([.int .i64 (rdH b).leap, .int .i64 (rdH b).ver, .int .i64 (rdH b).mode, .int .i64 (rdH b).strat, .int .i64 (rdH b).poll, .int .i64 (rdH b).prec, .int .u32 (n32 (rdH b).rd), .int .u32 (n32 (rdH b).rp), .int .u32 (n32 (rdH b).id), .int .u64 (n64 (rdH b).ref), .int .u64 (n64 (rdH b).org), .int .u64 (n64 (rdH b).rcv), .int .u64 (n64 (rdH b).tx)]) (hV.rd) (rfl) ?_)
          (repeat (apply VD_der; (case h => (intro us w' hx hf; obtain ⟨x, rfl⟩ := hx.out; refine ⟨rfl, ?_⟩; simp [go_sem, execOp, *]; (try simp (disch := omega) only [Go.IntWalk.i64_in, Go.IntWalk.rem_in, Go.IntWalk.wrap64_in]); rfl)); (try simp only [Act.put, List.setIfInBounds_toArray, List.set_cons_succ, List.set_cons_zero])))
          (refine VD_vag (fun p => .slice (p 0).1 (1) (1)) (fun p w'' => Bss w'' (p 0).1 (1) ([b.drop 48])) (fun p w w' h hx => h.ext hx) (fun us w' hx hf => ⟨rfl, ?_⟩) ?_; (unfold gives; simp [go_sem, execOp]; exact ⟨fun _ => (some ⟨w'.heap.size, 0, none⟩, 0), rfl, Ext.of_alloc _ _, bss1 (hSA.ext hx) _⟩))
          (refine VD_vag (fun p => .slice (p 0).1 (n - 48) (p 0).2) (fun p w'' => Own w'' 0 (p 0).1 (n - 48) (p 0).2 (b.drop 48)) (fun p w w' h hx => h.ext hx) (fun us w' hx hf => ⟨rfl, ?_⟩) ?_; (unfold gives; simp [go_sem, execOp]; exact vag_fresh (Nat.zero_le _) ((by have := join_any _ 1 1 [b.drop 48] w' (by exact (hf _ (List.mem_append_right _ (List.mem_singleton_self _)) rfl)) (by omega) (n - 48) (by rw [joinL1]; exact hdl) (by omega); rw [joinL1] at this; exact this))))
          (refine VD_nil ?_; intro us w' hx hf; obtain ⟨x, rfl⟩ := hx.out; (try simp only [Act.put, List.setIfInBounds_toArray, List.set_cons_succ, List.set_cons_zero, wpList_none]); (try simp only [List.mem_cons, List.not_mem_nil, or_false, forall_eq_or_imp, forall_eq, List.nil_append, List.cons_append, List.mem_append, false_or, true_and, and_true] at hf); (try simp only [Nat.reduceAdd, Nat.zero_add] at hf); (try simp only [Nat.reduceAdd, Nat.zero_add]))
          obtain ⟨-, hO⟩ := hf
          obtain ⟨a5, ha5⟩ : ∃ a, (us 4 0).1 = a := ⟨_, rfl⟩
          obtain ⟨c5, hc5⟩ : ∃ a, (us 4 0).2 = a := ⟨_, rfl⟩
          rw [ha5, hc5] at hO ⊢
          clear ha5 hc5
          have hxx : Ext V (V.ext x) := Ext.of_ext _ _
          have hHx := hHV.extB hxx
          have hEx := hEV.trans hxx
          generalize V.ext x = V5 at *
          go_wp2_with (first
            | (refine wpList_store_arr (RH13) rfl _ _ rfl (w.heap.size) (0) rfl ([.int .i64 (rdH b).leap, .int .i64 (rdH b).ver, .int .i64 (rdH b).mode, .int .i64 (rdH b).strat, .int .i64 (rdH b).poll, .int .i64 (rdH b).prec, .int .u32 (n32 (rdH b).rd), .int .u32 (n32 (rdH b).rp), .int .u32 (n32 (rdH b).id), .int .u64 (n64 (rdH b).ref), .int .u64 (n64 (rdH b).org), .int .u64 (n64 (rdH b).rcv), .int .u64 (n64 (rdH b).tx)]) rfl (27) _ (hHx) (rfl) (by simp) ((by simp; repeat' (first | rfl | constructor))) ?_; intro U hU hMU)
            | fail)
          refine bodyPost_ret (results_arr_tmp2 Tryz.results66 (RH13) _ _ (w.heap.size) (0) ([.int .i64 (rdH b).leap, .int .i64 (rdH b).ver, .int .i64 (rdH b).mode, .int .i64 (rdH b).strat, .int .i64 (rdH b).poll, .int .i64 (rdH b).prec, .int .u32 (n32 (rdH b).rd), .int .u32 (n32 (rdH b).rp), .int .u32 (n32 (rdH b).id), .int .u64 (n64 (rdH b).ref), .int .u64 (n64 (rdH b).org), .int .u64 (n64 (rdH b).rcv), .int .u64 (n64 (rdH b).tx)]) rfl (hU.rd) (rfl) (.slice a5 (n - 48) c5) (.int .i64 0) rfl rfl) rfl ?_
          have hOV := Sl.mut hO.sl hHx (by simp) hMU
          rw [er.out]
          exact ⟨a5, c5, by rw [hdl], by rw [hdl]; exact hOV, by rw [hdl]; exact hO.le.1, Below.trans hEx (hMU.below (by omega) hEx.size)⟩
        · have er := Lib.hid (hr2 (by omega))
          have i3 : ((rdH b).ver != 3) = true := by rw [bne_iff_ne]; exact v3
          have i4 : ((rdH b).ver != 4) = true := by rw [bne_iff_ne]; exact v4
          clear hr1 hr2 v3 v4
          go_wp2_with (first
            | ((refine wpList_store_arr (RH13) rfl _ _ rfl (g) (0) rfl ([.int .i64 (rdH b).leap, .int .i64 (rdH b).ver, .int .i64 (rdH b).mode, .int .i64 (rdH b).strat, .int .i64 (rdH b).poll, .int .i64 (rdH b).prec, .int .u32 (n32 (rdH b).rd), .int .u32 (n32 (rdH b).rp), .int .u32 (n32 (rdH b).id), .int .u64 (n64 (rdH b).ref), .int .u64 (n64 (rdH b).org), .int .u64 (n64 (rdH b).rcv), .int .u64 (n64 (rdH b).tx)]) rfl (27) _ (hBg) (rfl) (by simp) ((by simp; repeat' (first | rfl | constructor))) ?_; intro V hV0 hMV); have hV : Blk V g 27 [.int .i64 (rdH b).leap, .int .i64 (rdH b).ver, .int .i64 (rdH b).mode, .int .i64 (rdH b).strat, .int .i64 (rdH b).poll, .int .i64 (rdH b).prec, .int .u32 (n32 (rdH b).rd), .int .u32 (n32 (rdH b).rp), .int .u32 (n32 (rdH b).id), .int .u64 (n64 (rdH b).ref), .int .u64 (n64 (rdH b).org), .int .u64 (n64 (rdH b).rcv), .int .u64 (n64 (rdH b).tx)] := hV0; clear hV0; haveI := hV.blt; have q1 := hV.cell? 1 rfl; have hHV := Blk.turn hMV hH hne; haveI := hHV.blt)
            | ((refine wpList_store_arr (RH13) rfl _ _ rfl (w.heap.size) (0) rfl ([.int .i64 0, .int .i64 0, .int .i64 0, .int .i64 0, .int .i64 0, .int .i64 0, .int .u32 0, .int .u32 0, .int .u32 0, .int .u64 0, .int .u64 0, .int .u64 0, .int .u64 0]) rfl (27) _ (hHV) (rfl) (by simp) (by first | exact one_u8 _ | (simp; done) | (simp; (repeat' (first | rfl | constructor)))) ?_; intro V2 hV2 hMV2))
            | fail)
          have hEV : Ext w V := Below.trans hE (hMV.below hgE hE.size)
          have hSV := hS.mut hBg (by simp) hMV
          refine bodyPost_ret (results_arr_tmp2 Tryz.results66 (RH13) _ _ (w.heap.size) (0) ([.int .i64 0, .int .i64 0, .int .i64 0, .int .i64 0, .int .i64 0, .int .i64 0, .int .u32 0, .int .u32 0, .int .u32 0, .int .u64 0, .int .u64 0, .int .u64 0, .int .u64 0]) rfl (hV2.rd) (rfl) (.slice none 0 0) (.int .i64 3) rfl rfl) rfl ?_
          rw [er.out]
          exact DecOut.err _ _ _ (Below.trans hEV (hMV2.below (Nat.le_refl _) hEV.size))

end Go.Proofs.YtdmifbfgeeldnaaGreat
