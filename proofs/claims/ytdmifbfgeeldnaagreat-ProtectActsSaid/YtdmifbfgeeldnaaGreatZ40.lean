/- Lemmas of this claim, several texts joined. -/
import Derived.Test.YtdmifbfgeeldnaaGreatZ38
import Derived.Test.YtdmifbfgeeldnaaGreatZ39
set_option linter.unusedVariables false
set_option linter.unusedSimpArgs false
/- What arguments of a law read as: packets. -/
namespace Go.Sec
open Go.RowKit Go.ChangeShapes Go.WideShapes Go.Deep
theorem list16 {α : Type} {l : List α} (h : l.length = 16) : ∃ x0 x1 x2 x3 x4 x5 x6 x7 x8 x9 x10 x11 x12 x13 x14 x15, l = [x0, x1, x2, x3, x4, x5, x6, x7, x8, x9, x10, x11, x12, x13, x14, x15] := by
  match l, h with
  | [x0, x1, x2, x3, x4, x5, x6, x7, x8, x9, x10, x11, x12, x13, x14, x15], _ => exact ⟨x0, x1, x2, x3, x4, x5, x6, x7, x8, x9, x10, x11, x12, x13, x14, x15, rfl⟩
theorem fld_cells {H : Type} {enc : TypeId × Value → H} {P : Program} {w : World} {base : Nat} {held : Bool} {sp : Nat → Bool} {t : TypeId} {fs : Array Field} (hs : P.underlying t = some (.struct fs)) {n : Nat} {cs : List Value} {y : DataW H × List MemPlace} (h : DataW.trod enc P w base sp held n t cs = some y) :
    ∀ (i : Nat) (f : Field), fs[i]? = some f → ∃ m y, DataW.trod enc P w base sp held m f.type ((cs.drop f.offset).take (P.cellsOf f.type)) = some y := by
  obtain ⟨xs, m, _, _, hl, hlen, hf⟩ := DataW.trod_struct hs h
  intro i f hi
  have h1 := hf i f hi
  have hlt : i < xs.length := by rw [hlen]; exact (Array.getElem?_eq_some_iff.1 hi).1
  rw [List.getElem?_eq_getElem hlt] at h1
  exact ⟨m, _, h1⟩
theorem u32_of {x : Int} (h : (Lit.int .u32 x).wf = true) : ∃ t : UInt32, x = n32 t := by
  have hb : 0 ≤ x ∧ x ≤ 4294967295 := by simpa [Lit.wf, IntKind.min, IntKind.max, IntKind.signed, IntKind.bits] using h
  refine ⟨UInt32.ofNat x.toNat, ?_⟩
  unfold n32
  rw [UInt32.toNat_ofNat']
  omega
end Go.Sec
namespace Go.Proofs.YtdmifbfgeeldnaaGreat
open Go.RowKit Go.ChangeShapes Go.WideShapes Go.Deep Go.Sec Go.Pkt
variable {H : Type} {enc : TypeId × Value → H} {w : World} {b0 : Nat} {v : Value} {d : DataW H} {p : List MemPlace}
set_option maxRecDepth 100000 in
theorem pkt_of (hv : Value.okWide Tryz.prog w .any b0 32 v) (h : DataW.Trod enc Tryz.prog w 0 (fun _ => true) true 32 v d p) : ∃ q, PkR w v q := by
  obtain ⟨cs, rfl, hsz⟩ := okWide_struct Tryz.underlying32 hv
  obtain ⟨n, hm⟩ := h
  obtain ⟨l⟩ := cs
  have hl16 : l.length = 16 := by simpa using hsz.trans (show Tryz.prog.cellsOf 32 = 16 by kernel_rfl)
  obtain ⟨x0, x1, x2, x3, x4, x5, x6, x7, x8, x9, x10, x11, x12, x13, x14, x15, rfl⟩ := list16 hl16
  have hf := fld_cells Tryz.underlying32 hm
  obtain ⟨_, _, gh⟩ := hf 0 _ rfl
  obtain ⟨_, _, g13⟩ := hf 1 _ rfl
  obtain ⟨_, _, g14⟩ := hf 2 _ rfl
  obtain ⟨_, _, g15⟩ := hf 3 _ rfl
  have gh : DataW.trod enc Tryz.prog w 0 (fun _ => true) true _ 27 [x0, x1, x2, x3, x4, x5, x6, x7, x8, x9, x10, x11, x12] = some _ := gh
  have g13 : DataW.trod enc Tryz.prog w 0 (fun _ => true) true _ 29 [x13] = some _ := g13
  have g14 : DataW.trod enc Tryz.prog w 0 (fun _ => true) true _ 29 [x14] = some _ := g14
  have g15 : DataW.trod enc Tryz.prog w 0 (fun _ => true) true _ 4 [x15] = some _ := g15
  obtain ⟨_, hh⟩ := one_cells Tryz.underlying27 (by kernel_rfl) gh
  obtain ⟨_, _, q0⟩ := hh 0 _ x0 rfl rfl
  obtain ⟨y0, rfl, w0⟩ := int_cell Tryz.underlying3 q0
  obtain ⟨_, _, q1⟩ := hh 1 _ x1 rfl rfl
  obtain ⟨y1, rfl, w1⟩ := int_cell Tryz.underlying3 q1
  obtain ⟨_, _, q2⟩ := hh 2 _ x2 rfl rfl
  obtain ⟨y2, rfl, w2⟩ := int_cell Tryz.underlying3 q2
  obtain ⟨_, _, q3⟩ := hh 3 _ x3 rfl rfl
  obtain ⟨y3, rfl, w3⟩ := int_cell Tryz.underlying3 q3
  obtain ⟨_, _, q4⟩ := hh 4 _ x4 rfl rfl
  obtain ⟨y4, rfl, w4⟩ := int_cell Tryz.underlying3 q4
  obtain ⟨_, _, q5⟩ := hh 5 _ x5 rfl rfl
  obtain ⟨y5, rfl, w5⟩ := int_cell Tryz.underlying3 q5
  obtain ⟨_, _, q6⟩ := hh 6 _ x6 rfl rfl
  obtain ⟨y6, rfl, w6⟩ := int_cell Tryz.underlying24 q6
  obtain ⟨z6, rfl⟩ := u32_of w6
  obtain ⟨_, _, q7⟩ := hh 7 _ x7 rfl rfl
  obtain ⟨y7, rfl, w7⟩ := int_cell Tryz.underlying24 q7
  obtain ⟨z7, rfl⟩ := u32_of w7
  obtain ⟨_, _, q8⟩ := hh 8 _ x8 rfl rfl
  obtain ⟨y8, rfl, w8⟩ := int_cell Tryz.underlying24 q8
  obtain ⟨z8, rfl⟩ := u32_of w8
  obtain ⟨_, _, q9⟩ := hh 9 _ x9 rfl rfl
  obtain ⟨y9, rfl, w9⟩ := int_cell Tryz.underlying25 q9
  obtain ⟨z9, rfl⟩ := u64_of w9
  obtain ⟨_, _, q10⟩ := hh 10 _ x10 rfl rfl
  obtain ⟨y10, rfl, w10⟩ := int_cell Tryz.underlying25 q10
  obtain ⟨z10, rfl⟩ := u64_of w10
  obtain ⟨_, _, q11⟩ := hh 11 _ x11 rfl rfl
  obtain ⟨y11, rfl, w11⟩ := int_cell Tryz.underlying25 q11
  obtain ⟨z11, rfl⟩ := u64_of w11
  obtain ⟨_, _, q12⟩ := hh 12 _ x12 rfl rfl
  obtain ⟨y12, rfl, w12⟩ := int_cell Tryz.underlying25 q12
  obtain ⟨z12, rfl⟩ := u64_of w12
  obtain ⟨a1, n1, c1, L1, rfl, i1, k1, _, _⟩ := ib_of_trod (f0 := _) (f1 := _) (tu := 0) (ti := 0) (tb := 0) Tryz.underlying29 Tryz.underlying66 (by kernel_rfl) rfl rfl (by kernel_rfl) (by kernel_rfl) Tryz.underlying3 Tryz.underlying33 rfl Tryz.underlying5 cU8 g13
  obtain ⟨a2, n2, c2, L2, rfl, i2, k2, _, _⟩ := ib_of_trod (f0 := _) (f1 := _) (tu := 0) (ti := 0) (tb := 0) Tryz.underlying29 Tryz.underlying66 (by kernel_rfl) rfl rfl (by kernel_rfl) (by kernel_rfl) Tryz.underlying3 Tryz.underlying33 rfl Tryz.underlying5 cU8 g14
  obtain ⟨gd, rfl⟩ := bool_cell Tryz.underlying4 g15
  exact ⟨⟨⟨y0, y1, y2, y3, y4, y5, z6, z7, z8, z9, z10, z11, z12⟩, L1, L2, gd⟩, a1, n1, c1, a2, n2, c2, rfl, i1, k1, i2, k2⟩
end Go.Proofs.YtdmifbfgeeldnaaGreat
