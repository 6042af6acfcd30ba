/- Lemmas of this claim, several texts joined. -/
import Derived.Test.YtbfgeokngekdmaaGreatZ4
import Derived.Test.YtbfgeokngekdmaaGreatZ5
import Derived.Test.YtbfgeokngekdmaaGreatZ6
import Derived.Test.YtbfgeokngekdmaaGreatZ11
import Derived.Test.YtbfgeokngekdmaaGreatZ27
import Derived.Test.YtbfgeokngekdmaaGreatZ30
import Derived.Test.YtbfgeokngekdmaaGreatZ32
set_option linter.unusedVariables false
set_option linter.unusedSimpArgs false
/- The walks of layer 19: Valid. -/
namespace Go.Sec
open Go.RowKit
theorem grown_none {w w' : World} (h : Ext w w') : w.grownBy w' none := ⟨h.os, h.tape, h.output, h.size, fun i hi _ => h.block i hi⟩
theorem ownsMap_ext {H : Type} {P : Program} {k : TypeId} {R : Value → Option (DataW H × List MemPlace)} {b n : Nat} {D : DataW H} {w w' : World} (h : w.ownsMap P k R b n D) (hx : Ext w w') : w'.ownsMap P k R b n D := h.kept (grown_none hx) (by simp)
theorem rd_two {w : World} {b o : Nat} {u v : Value} (hb : b < w.heap.size) (h0 : w.cell? ⟨b, o, none⟩ = some u) (h1 : w.cell? ⟨b, o + 1, none⟩ = some v) : Rd w (some ⟨b, o, none⟩) [u, v] := by
  refine .inr ⟨b, o, rfl, hb, fun k x hk => ?_⟩
  match k, hk with
  | 0, hk => simpa using hk ▸ h0
  | 1, hk => simpa using hk ▸ h1
end Go.Sec
namespace Go.Cook
theorem validR_bad {r : Ring} {k : Nat} {x : Int × List UInt8} (hx : r[k]? = some x) (h : okM x = false ∨ x.1 ∈ (r.take k).map (·.1)) : validR r = false := by
  obtain ⟨hk, he⟩ := List.getElem?_eq_some_iff.1 hx
  by_cases hv : validR r = true
  · exfalso
    obtain ⟨h1, h2, _, _⟩ := validR_iff.1 hv
    rcases h with h | h
    · have := h1 x (List.mem_of_getElem? hx)
      unfold okM at h
      simp [this] at h
    · obtain ⟨m, hm, hme⟩ := List.mem_map.1 h
      obtain ⟨j, hj, rfl⟩ := List.getElem_of_mem hm
      have hjk : j < k := by rw [List.length_take] at hj; omega
      have := List.pairwise_iff_getElem.1 h2 j k (by simp; omega) (by simpa using hk) hjk
      simp only [List.getElem_map] at this
      rw [List.getElem_take] at hme
      exact this (by rw [hme, he])
  · simpa using hv
theorem validR_end {r : Ring} (h1 : ∀ m ∈ r, okM m = true) (h2 : (r.map (·.1)).Nodup) : validR r = decide (1 ≤ r.length ∧ r.length ≤ 4) := by
  unfold validR fineR
  rw [List.all_eq_true.2 h1, decide_eq_true h2]
  rfl
theorem ids_snoc {r : Ring} {k : Nat} {x : Int × List UInt8} (hx : r[k]? = some x) (h2 : ((r.take k).map (·.1)).Nodup) (h : x.1 ∉ (r.take k).map (·.1)) : ((r.take (k + 1)).map (·.1)).Nodup := by
  rw [List.take_add_one, hx, Option.toList_some, List.map_append, List.map_singleton, List.nodup_append]
  refine ⟨h2, by simp, fun a ha b hb => ?_⟩
  simp only [List.mem_singleton] at hb
  subst hb
  exact fun e => h (e ▸ ha)
theorem take_snoc {r : Ring} {k : Nat} {x : Int × List UInt8} (hx : r[k]? = some x) : r.take (k + 1) = r.take k ++ [x] := by
  rw [List.take_add_one, hx, Option.toList_some]
end Go.Cook
namespace Go.Proofs.YtbfgeokngekdmaaGreat
open Go.RowKit Go.Sec Go.Oct Go.Sha Go.Aes Go.Cook BigFrame
open Go.Maps (Keyed)

theorem RM2 : RowT Tryz.prog 48 2 := ⟨⟨_, Tryz.underlying48, rfl⟩, by kernel_rfl, ⟨_, Tryz.zeroValue48, by kernel_rfl⟩⟩
theorem KI : Keyed Tryz.prog 3 := Go.Maps.int_keyed Tryz.underlying3
theorem zeroB (w : World) : (zeroValue 4).run Tryz.prog w = .ok (.bool false) w := by kernel_rfl

set_option maxRecDepth 100000 in
set_option maxHeartbeats 4000000 in
theorem ckvalid_any (a : Option Addr) (n c : Nat) (r : Ring) (w : World) (hI : Ib w a n r) (hc : n ≤ c) (hn : n ≤ 1000000) :
    Calls Tryz.prog 22 #[.agg #[.slice a n c]] w fun e w' => e = .returned (.bool (validR r)) ∧ Ext w w' := by
  have hmm := @run_makeMap Tryz.prog
  have hrl := hI.len
  go_enter Tryz.func22, Tryz.ntmps22
  go_wp2
  go_loopw [5, 10] (fun _ v10 wr => ∃ k : Nat, k ≤ n ∧ v10 = .int .i64 k ∧ (∀ m ∈ r.take k, okM m = true) ∧ ((r.take k).map (·.1)).Nodup ∧ Blk wr w.heap.size 24 [.slice a n c] ∧ wr.ownsMap Tryz.prog 3 (plainElem (H := Unit) Tryz.prog 4) (w.heap.size + 1) k (seenD (r.take k)) ∧ Ext w wr)
    (fun _ v10 _ => n - (intOf v10).toNat)
  case atStart =>
    refine ⟨0, Nat.zero_le _, rfl, by simp, by simp, (Blk.new _ _ _).alloc _, ?_, (by repeat (first | (with_reducible first | exact Ext.refl _ | assumption | apply Ext.alloc | apply Ext.ext | apply Ext.drew | refine Ext.setCell ?_ ?_ _) | (focus (simp [go_sem]; done))))⟩
    have := World.ownsMap_made (H := Unit) (w.alloc (.cells #[.slice a n c] 24)) Tryz.prog 3 (plainElem Tryz.prog 4)
    rw [List.take_zero]; simpa [seenD] using this
  case round =>
    obtain ⟨k, hk, rfl, h1, h2, hB, hown, hE⟩ := hrel
    haveI := hB.blt
    have hbc := hB.cell? 0 rfl
    by_cases hlt : k < n
    · have hki : (k : Int) < (n : Int) := by omega
      obtain ⟨x, hx⟩ : ∃ x, r[k]? = some x := ⟨_, List.getElem?_eq_getElem (by omega)⟩
      have hbad := validR_bad hx
      have hsn := ids_snoc hx h2
      have hts := take_snoc hx
      have hat := seenD_at (H := Unit) (r.take k) x.1
      obtain ⟨id, ky⟩ := x
      obtain ⟨b, off, g, cg, rfl, hb, hc0, hc1, hSd, hcd⟩ := (hI.ext hE).at k hlt _ hx
      simp only at hc0 hc1 hSd hcd hbad hsn hat
      have hrd := rd_two hb.lt hc0 hc1
      clear hI
      by_cases b1 : id < 0
      · have hv := hbad (.inl (by unfold okM; simp; omega))
        go_wp2_with (first
          | (refine wpList_load_arr (RM2) rfl _ rfl (b) (off + k * 2) rfl ([.int .i64 id, .slice g ky.length cg]) (hrd) (rfl) ?_)
          | (refine wpList_alloc_store (RM2) rfl rfl _ _ rfl rfl rfl rfl (by simp [Act.put]) ([.int .i64 id, .slice g ky.length cg]) rfl (by simp) (rfl) ((by simp; repeat' (first | rfl | constructor))) ?_; intro x hz _); (have f0 : (wr.ext x).cell? ⟨wr.heap.size, 0, none⟩ = some (.int .i64 id) := hz.cell? 0 rfl); (have f1 : (wr.ext x).cell? ⟨wr.heap.size, 1, none⟩ = some (.slice g ky.length cg) := hz.cell? 1 rfl); (have hownx := ownsMap_ext hown (Ext.of_ext wr x))
          | fail)
        go_ret
        exact ⟨(by first | rfl | (show Ending.returned (Value.bool false) = _; rw [hv])), (by repeat (first | (with_reducible first | exact Ext.refl _ | assumption | apply Ext.alloc | apply Ext.ext | apply Ext.drew | refine Ext.setCell ?_ ?_ _) | (focus (simp [go_sem]; done))))⟩
      · by_cases b2 : 4294967295 < id
        · have hv := hbad (.inl (by unfold okM; simp; omega))
          go_wp2_with (first
            | (refine wpList_load_arr (RM2) rfl _ rfl (b) (off + k * 2) rfl ([.int .i64 id, .slice g ky.length cg]) (hrd) (rfl) ?_)
            | (refine wpList_alloc_store (RM2) rfl rfl _ _ rfl rfl rfl rfl (by simp [Act.put]) ([.int .i64 id, .slice g ky.length cg]) rfl (by simp) (rfl) ((by simp; repeat' (first | rfl | constructor))) ?_; intro x hz _); (have f0 : (wr.ext x).cell? ⟨wr.heap.size, 0, none⟩ = some (.int .i64 id) := hz.cell? 0 rfl); (have f1 : (wr.ext x).cell? ⟨wr.heap.size, 1, none⟩ = some (.slice g ky.length cg) := hz.cell? 1 rfl); (have hownx := ownsMap_ext hown (Ext.of_ext wr x))
            | fail)
          go_ret
          exact ⟨(by first | rfl | (show Ending.returned (Value.bool false) = _; rw [hv])), (by repeat (first | (with_reducible first | exact Ext.refl _ | assumption | apply Ext.alloc | apply Ext.ext | apply Ext.drew | refine Ext.setCell ?_ ?_ _) | (focus (simp [go_sem]; done))))⟩
        · by_cases b3 : ky.length = 32
          · have b3i : (((ky.length : Nat) : Int) != 32) = false := by rw [bne_eq_false_iff_eq]; omega
            have hkey : keyOf Tryz.prog 3 (.int .i64 id) = some (.int .i64 id) := Go.Maps.keyOf_int_mk Tryz.underlying3 (WalkArith.wf_i64 (by omega))
            by_cases b4 : id ∈ (r.take k).map (·.1)
            · have hv := hbad (.inr b4)
              rw [decide_eq_true b4] at hat
              clear b3 hbad hsn
              go_wp2_with (first
                | (refine wpList_load_arr (RM2) rfl _ rfl (b) (off + k * 2) rfl ([.int .i64 id, .slice g ky.length cg]) (hrd) (rfl) ?_)
                | (refine wpList_alloc_store (RM2) rfl rfl _ _ rfl rfl rfl rfl (by simp [Act.put]) ([.int .i64 id, .slice g ky.length cg]) rfl (by simp) (rfl) ((by simp; repeat' (first | rfl | constructor))) ?_; intro x hz _); (have f0 : (wr.ext x).cell? ⟨wr.heap.size, 0, none⟩ = some (.int .i64 id) := hz.cell? 0 rfl); (have f1 : (wr.ext x).cell? ⟨wr.heap.size, 1, none⟩ = some (.slice g ky.length cg) := hz.cell? 1 rfl); (have hownx := ownsMap_ext hown (Ext.of_ext wr x))
                | (refine wpList_wanted (by simp [Region.wanted, yielded, Act.put]) ?_; refine wpList_lookup_own_bool _ rfl _ _ 71 rfl 3 4 KI Tryz.underlying71 Tryz.underlying4 (zeroB _) (w.heap.size + 1) k _ rfl hownx _ _ rfl hkey true hat ?_)
                | fail)
              go_ret
              exact ⟨(by first | rfl | (show Ending.returned (Value.bool false) = _; rw [hv])), (by repeat (first | (with_reducible first | exact Ext.refl _ | assumption | apply Ext.alloc | apply Ext.ext | apply Ext.drew | refine Ext.setCell ?_ ?_ _) | (focus (simp [go_sem]; done))))⟩
            · have hsn := hsn b4
              have hok : okM (id, ky) = true := by unfold okM; simp; omega
              rw [decide_eq_false b4] at hat
              clear b3 hbad
              go_wp2_with (first
                | (refine wpList_load_arr (RM2) rfl _ rfl (b) (off + k * 2) rfl ([.int .i64 id, .slice g ky.length cg]) (hrd) (rfl) ?_)
                | (refine wpList_alloc_store (RM2) rfl rfl _ _ rfl rfl rfl rfl (by simp [Act.put]) ([.int .i64 id, .slice g ky.length cg]) rfl (by simp) (rfl) ((by simp; repeat' (first | rfl | constructor))) ?_; intro x hz _); (have f0 : (wr.ext x).cell? ⟨wr.heap.size, 0, none⟩ = some (.int .i64 id) := hz.cell? 0 rfl); (have f1 : (wr.ext x).cell? ⟨wr.heap.size, 1, none⟩ = some (.slice g ky.length cg) := hz.cell? 1 rfl); (have hownx := ownsMap_ext hown (Ext.of_ext wr x))
                | (refine wpList_wanted (by simp [Region.wanted, yielded, Act.put]) ?_; refine wpList_lookup_own_bool _ rfl _ _ 71 rfl 3 4 KI Tryz.underlying71 Tryz.underlying4 (zeroB _) (w.heap.size + 1) k _ rfl hownx _ _ rfl hkey false hat ?_)
                | (at_mapUpdate; refine wpList_mapUpdate_own _ rfl _ _ _ 71 rfl 3 4 KI Tryz.underlying71 _ (w.heap.size + 1) k _ rfl hownx (by unfold maxLen; omega) _ _ _ rfl rfl hkey _ [] (plainElem_bool Tryz.underlying4 true) ?_; intro w1 hown1 hgrow1)
                | fail)
              have hEx : Ext w (wr.ext x) := (by repeat (first | (with_reducible first | exact Ext.refl _ | assumption | apply Ext.alloc | apply Ext.ext | apply Ext.drew | refine Ext.setCell ?_ ?_ _) | (focus (simp [go_sem]; done))))
              go_roundw
              case rel =>
                refine ⟨k + 1, by omega, by go_num, ?_, hsn, Blk.grown (hB.ext x) hgrow1 (by simp), ?_, hEx.grown hgrow1 hEx.size (fun j hj => by cases hj; omega)⟩
                · intro m hm
                  rw [hts] at hm
                  rcases List.mem_append.1 hm with hm | hm
                  · exact h1 m hm
                  · rw [List.mem_singleton.1 hm]; exact hok
                · rw [hts, seenD_snoc]; exact hown1
              case measure => simp [intOf]; omega
          · have hv := hbad (.inl (by unfold okM; simp; omega))
            have b3i : (((ky.length : Nat) : Int) != 32) = true := by rw [bne_iff_ne]; omega
            go_wp2_with (first
              | (refine wpList_load_arr (RM2) rfl _ rfl (b) (off + k * 2) rfl ([.int .i64 id, .slice g ky.length cg]) (hrd) (rfl) ?_)
              | (refine wpList_alloc_store (RM2) rfl rfl _ _ rfl rfl rfl rfl (by simp [Act.put]) ([.int .i64 id, .slice g ky.length cg]) rfl (by simp) (rfl) ((by simp; repeat' (first | rfl | constructor))) ?_; intro x hz _); (have f0 : (wr.ext x).cell? ⟨wr.heap.size, 0, none⟩ = some (.int .i64 id) := hz.cell? 0 rfl); (have f1 : (wr.ext x).cell? ⟨wr.heap.size, 1, none⟩ = some (.slice g ky.length cg) := hz.cell? 1 rfl); (have hownx := ownsMap_ext hown (Ext.of_ext wr x))
              | fail)
            go_ret
            exact ⟨(by first | rfl | (show Ending.returned (Value.bool false) = _; rw [hv])), (by repeat (first | (with_reducible first | exact Ext.refl _ | assumption | apply Ext.alloc | apply Ext.ext | apply Ext.drew | refine Ext.setCell ?_ ?_ _) | (focus (simp [go_sem]; done))))⟩
    · have hkk : k = n := by omega
      subst hkk
      have hki : ¬ (k : Int) < (k : Int) := by omega
      rw [List.take_of_length_le (by omega)] at h1 h2
      have hv := validR_end h1 h2
      rw [hrl] at hv
      by_cases d1 : 1 ≤ k
      · by_cases d2 : k ≤ 4
        · have e1 : (1 : Int) ≤ (k : Int) := by omega
          have e2 : (k : Int) ≤ 4 := by omega
          go_wp2_with fail
          go_ret
          exact ⟨(by first | rfl | (show Ending.returned (Value.bool true) = _; rw [hv, decide_eq_true ⟨d1, d2⟩])), hE⟩
        · have e1 : (1 : Int) ≤ (k : Int) := by omega
          have e2 : ¬ (k : Int) ≤ 4 := by omega
          go_wp2_with fail
          go_ret
          exact ⟨(by first | rfl | (show Ending.returned (Value.bool false) = _; rw [hv, decide_eq_false (by omega)])), hE⟩
      · have e1 : ¬ (1 : Int) ≤ (k : Int) := by omega
        go_wp2_with fail
        go_ret
        exact ⟨(by first | rfl | (show Ending.returned (Value.bool false) = _; rw [hv, decide_eq_false (by omega)])), hE⟩
end Go.Proofs.YtbfgeokngekdmaaGreat

/- The walks of layer 19: keys, Start, Rotate. -/
namespace Go.Sec
open Go.RowKit
theorem Ib.mut {w w' : World} {a : Option Addr} {n g : Nat} {T : TypeId} {vs : List Value} {L : List (Int × List UInt8)} (h : Ib w a n L) (hoff : ∀ b o, a = some ⟨b, o, none⟩ → b ≠ g) (hB : Blk w g T vs) (hne : ∀ v ∈ vs, ∀ x, v ≠ .int .u8 x) (hM : Mut g w w') : Ib w' a n L := by
  refine ⟨h.len, h.row.imp id ?_⟩
  rintro ⟨b, off, ha, hb, hc⟩
  have hbg := hoff b off ha
  have hblk := hM.block b hb (fun e => hbg (by injection e))
  refine ⟨b, off, ha, Nat.lt_of_lt_of_le hb hM.size, fun k hk => ?_⟩
  obtain ⟨g', c, h1, h2, h3, h4⟩ := hc k hk
  exact ⟨g', c, (World.cell?_of_block hblk).trans h1, (World.cell?_of_block hblk).trans h2, h3.mut hB hne hM, h4⟩
theorem endM {w wr W w9 : World} {g : Nat} (hE : Ext w wr) (hx : Ext wr W) (hM : Mut g W w9) (hg : w.heap.size ≤ g) : Ext w w9 := Below.trans (hE.trans hx) (hM.below hg (hE.trans hx).size)
theorem OwnI.off {T : TypeId} {w : World} {base n c g : Nat} {a : Option Addr} {L : List (Int × List UInt8)} (h : OwnI T w base a n c L) (hg : g < base) : ∀ b o, a = some ⟨b, o, none⟩ → b ≠ g := fun b o e => by
  obtain ⟨_, xs, h2, _⟩ := h
  subst e
  have := (own_lt h2 b rfl).1
  omega
/-- .. from some place on. -/
def OwnX (T : TypeId) (B0 : Nat) (w : World) (a : Option Addr) (n c : Nat) (L : List (Int × List UInt8)) : Prop := ∃ B, B0 ≤ B ∧ B ≤ w.heap.size ∧ OwnI T w B a n c L
theorem OwnX.ext {T : TypeId} {B0 n c : Nat} {w w' : World} {a : Option Addr} {L : List (Int × List UInt8)} (h : OwnX T B0 w a n c L) (hx : Ext w w') : OwnX T B0 w' a n c L := by
  obtain ⟨B, h1, h2, h3⟩ := h
  exact ⟨B, h1, Nat.le_trans h2 hx.size, h3.ext hx⟩
theorem OwnX.new {T : TypeId} {w : World} {B0 : Nat} {id : Int} {g : Option Addr} {m cg : Nat} {l : List UInt8} (h : Sl w g m l) (hc : m ≤ cg) (hb : B0 ≤ w.heap.size) :
    OwnX T B0 (w.alloc (.cells #[.int .i64 id, .slice g m cg] T)) (some ⟨w.heap.size, 0, none⟩) 1 1 [(id, l)] :=
  ⟨w.heap.size, hb, by simp, OwnI.new h hc (Nat.le_refl _) (h.inT _)⟩
end Go.Sec
namespace Go.Proofs.YtbfgeokngekdmaaGreat
open Go.RowKit Go.Sec Go.Oct Go.Sha Go.Aes Go.Cook BigFrame

theorem RR1 : RowT Tryz.prog 24 1 := ⟨⟨_, Tryz.underlying24, rfl⟩, by kernel_rfl, ⟨_, Tryz.zeroValue24, by kernel_rfl⟩⟩
theorem infoM : (Tryz.prog.info? 48).map (fun i => (i.zero, i.size, i.bytes)) = some (some (.agg #[.int .i64 0, .slice none 0 0]), 2, 32) := by kernel_rfl
theorem VM : SI Tryz.prog 22 48 := ⟨Tryz.underlying22, by
  obtain ⟨i, h1, h2, h3, h4⟩ := info_parts infoM
  exact ⟨i, _, h1, h2, h3, h4, rfl⟩⟩
theorem i64_and32 (n : Int) : bits .and .i64 n 4294967295 = n % 4294967296 := by
  have h127 : (BitVec.ofInt 64 4294967295).toNat = 2 ^ 32 - 1 := by decide
  have key : (BitVec.ofInt 64 n &&& BitVec.ofInt 64 4294967295).toNat = (n % ((2 ^ 64 : Nat) : Int)).toNat % 2 ^ 32 := by
    rw [BitVec.toNat_and, BitVec.toNat_ofInt, h127, Nat.and_two_pow_sub_one_eq_mod]
  show IntKind.i64.wrap ((BitVec.ofInt 64 n &&& BitVec.ofInt 64 4294967295).toNat : Nat) = n % 4294967296
  rw [key, IntKind.wrap_i64]
  omega
set_option maxRecDepth 100000 in
set_option maxHeartbeats 4000000 in
theorem derived_any (a : Option Addr) (n c : Nat) (key info : List UInt8) (w : World) (h : Sl w a n key) (hnc : n ≤ c) (hn : n ≤ 1000000) (hi : info.length ≤ 1000) :
    Calls Tryz.prog 51 #[.slice a n c, .string ⟨info.toArray⟩] w (Rdl 32 (expandK key info 32) w) := by
  have hcv := run_bytes_str U hu8 hst
  go_enter Tryz.func51, Tryz.ntmps51
  go_wp2_with fail
  have hxs : Ext w (w.ext (strMore w ⟨info.toArray⟩)) := Ext.of_ext _ _
  (with_reducible refine (expand_any a _ n c _ _ 32 (rfl : (32 : Int) = ((32 : Nat) : Int)) key info _ (h.ext hxs) hnc hn (sl_strB w info) (by omega) (by decide)).mono ?_)
  rintro e w1 ⟨b1, d1, rfl, hS1, hd1, hx1⟩
  go_wp2
  go_ret
  exact ⟨_, _, rfl, hS1, hd1, hxs.trans hx1⟩
theorem clip_any (a : Option Addr) (n c : Nat) (w : World) (hnc : n ≤ c) :
    Calls Tryz.prog 55 #[.slice a n c] w fun e w' => e = .returned (.slice a n n) ∧ Ext w w' := by
  go_enter Tryz.func55, Tryz.ntmps55
  go_wp2
  go_ret
  exact ⟨rfl, Ext.refl _⟩
/-- A ring that the call hands back, and a code. -/
def RingP (r : Ring × Int) (w : World) (e : Ending) (w' : World) : Prop := ∃ a n c, e = .returned (.tuple #[.agg #[.slice a n c], .int .i64 r.2]) ∧ Ib w' a n r.1 ∧ n ≤ c ∧ Ext w w'
theorem RingP.err (w w' : World) (e : Int) (hx : Ext w w') : RingP ([], e) w (.returned (.tuple #[.agg #[.slice none 0 0], .int .i64 e])) w' := ⟨none, 0, 0, rfl, Ib.nil _ _, Nat.le_refl _, hx⟩
set_option maxRecDepth 100000 in
set_option maxHeartbeats 4000000 in
theorem cstart_any (id : Int) (a : Option Addr) (n c : Nat) (seed : List UInt8) (w : World) (h : Sl w a n seed) (hnc : n ≤ c) :
    Calls Tryz.prog 32 #[.int .i64 id, .slice a n c] w (RingP (startE id seed) w) := by
  have hll := h.len
  by_cases h1 : id < 0 ∨ 4294967295 < id
  · have e : startE id seed = ([], 4) := by unfold startE; rw [if_pos h1]
    rw [e]
    clear hll e
    rcases h1 with h1 | h1
    · skip
      go_enter Tryz.func32, Tryz.ntmps32
      go_wp2_with fail
      refine bodyPost_ret (v := .tuple #[.agg #[.slice none 0 0], .int .i64 4]) (by simp [results, Tryz.results32, go_sem]) rfl ?_
      exact RingP.err _ _ _ (by repeat (first | (with_reducible first | exact Ext.refl _ | assumption | apply Ext.alloc | apply Ext.ext | apply Ext.drew | refine Ext.setCell ?_ ?_ _) | (focus (simp [go_sem]; done))))
    · have h2 : ¬ id < 0 := by omega
      go_enter Tryz.func32, Tryz.ntmps32
      go_wp2_with fail
      refine bodyPost_ret (v := .tuple #[.agg #[.slice none 0 0], .int .i64 4]) (by simp [results, Tryz.results32, go_sem]) rfl ?_
      exact RingP.err _ _ _ (by repeat (first | (with_reducible first | exact Ext.refl _ | assumption | apply Ext.alloc | apply Ext.ext | apply Ext.drew | refine Ext.setCell ?_ ?_ _) | (focus (simp [go_sem]; done))))
  · have i1 : ¬ id < 0 := by omega
    have i2 : ¬ 4294967295 < id := by omega
    by_cases h2 : n = 32
    · subst h2
      have e : startE id seed = ([(id, expandK seed startS 32)], 0) := by unfold startE; rw [if_neg h1, if_neg (by omega)]
      rw [e]
      generalize hK : expandK seed startS 32 = K
      have hdr : ∀ W, Sl W a 32 seed → Calls Tryz.prog 51 #[.slice a 32 c, .string ⟨#[115, 101, 99, 116, 105, 109, 101, 32, 115, 116, 97, 114, 116]⟩] W (Rdl 32 (expandK seed startS 32) W) := fun W h => derived_any a 32 c seed startS W h hnc (by omega) (by decide)
      rw [hK] at hdr
      clear hll e h1 hK
      go_enter Tryz.func32, Tryz.ntmps32
      go_wp2_with fail
      (with_reducible refine (hdr _ (h.ext (Ext.of_alloc _ _))).mono ?_)
      rintro e w1 ⟨b1, d1, rfl, hS1, hd1, hx1⟩
      have hR := (Blk.new w #[.slice none 0 0] 24).extB hx1
      have hE1 : Ext w w1 := (Ext.of_alloc _ _).trans hx1
      have hIb := ib1 hS1 hd1 id 48
      have hlt := hR.lt
      have hRx := hR.alloc (.cells #[.int .i64 id, .slice b1 32 d1] 48)
      haveI := hRx.blt
      go_wp2_with (first
        | (refine wpList_store_arr (RR1) rfl _ _ rfl (w.heap.size) (0) rfl ([.slice (some ⟨w1.heap.size, 0, none⟩) 1 1]) rfl (24) _ (hRx) (rfl) (by simp) (by first | exact one_u8 _ | (simp; done) | (simp; (repeat' (first | rfl | constructor)))) ?_; intro w9 hB9 hM9)
        | fail)
      refine bodyPost_ret (results_arr_tmp Tryz.results32 (RR1) _ _ (w.heap.size) (0) ([.slice (some ⟨w1.heap.size, 0, none⟩) 1 1]) rfl (hB9.rd) (rfl) (.int .i64 0) rfl) rfl ?_
      have hE2 : Ext w (w1.alloc (.cells #[.int .i64 id, .slice b1 32 d1] 48)) := hE1.alloc _
      exact ⟨_, _, _, rfl, hIb.mut (fun b o e => by injection e with e; injection e with e _; omega) hRx (by simp) hM9, Nat.le_refl _, Below.trans hE2 (hM9.below (Nat.le_refl _) hE2.size)⟩
    · have e : startE id seed = ([], 5) := by unfold startE; rw [if_neg h1, if_pos (by omega)]
      rw [e]
      have h2' : (((n : Nat) : Int) != 32) = true := by rw [bne_iff_ne]; omega
      clear hll e h2 h1
      go_enter Tryz.func32, Tryz.ntmps32
      go_wp2_with fail
      refine bodyPost_ret (v := .tuple #[.agg #[.slice none 0 0], .int .i64 5]) (by simp [results, Tryz.results32, go_sem]) rfl ?_
      exact RingP.err _ _ _ (by repeat (first | (with_reducible first | exact Ext.refl _ | assumption | apply Ext.alloc | apply Ext.ext | apply Ext.drew | refine Ext.setCell ?_ ?_ _) | (focus (simp [go_sem]; done))))
end Go.Proofs.YtbfgeokngekdmaaGreat

/- The walks of layer 19: Rotate. -/
namespace Go.Cook
theorem rot_bad {r : Ring} (h : validR r = true) (hn : ((hd r).1 + 1) % 4294967296 ∈ (r.take 3).map (·.1)) : validR (rotR r) = false := by
  by_cases hv : validR (rotR r) = true
  · obtain ⟨_, h2, _, _⟩ := validR_iff.1 hv
    unfold rotR at h2
    rw [List.map_cons, List.nodup_cons] at h2
    exact absurd hn h2.1
  · simpa using hv
end Go.Cook
namespace Go.Proofs.YtbfgeokngekdmaaGreat
open Go.RowKit Go.Sec Go.Oct Go.Sha Go.Aes Go.Cook BigFrame

set_option maxRecDepth 100000 in
set_option maxHeartbeats 8000000 in
theorem crotate_any (a : Option Addr) (n c : Nat) (r : Ring) (w : World) (hI : Ib w a n r) (hnc : n ≤ c) (hn : n ≤ 1000000) :
    Calls Tryz.prog 34 #[.agg #[.slice a n c]] w (RingP (rotateE r) w) := by
  have hval := fun W h => ckvalid_any a n c r W h hnc hn
  have hrl := hI.len
  cases hv : validR r
  · have e : rotateE r = ([], 3) := by unfold rotateE; rw [if_pos hv]
    rw [e]
    rw [hv] at hval
    go_enter Tryz.func34, Tryz.ntmps34
    go_wp2_with (first
      | (go_at_call 22; refine (hval _ (hI.ext (by repeat (first | (with_reducible first | exact Ext.refl _ | assumption | apply Ext.alloc | apply Ext.ext | apply Ext.drew | refine Ext.setCell ?_ ?_ _) | (focus (simp [go_sem]; done)))))).mono ?_; rintro e w1 ⟨rfl, hxq⟩; obtain ⟨xq, rfl⟩ := hxq.out; clear hxq)
      | fail)
    refine bodyPost_ret (v := .tuple #[.agg #[.slice none 0 0], .int .i64 3]) (by simp [results, Tryz.results34, go_sem]) rfl ?_
    exact RingP.err _ _ _ (by repeat (first | (with_reducible first | exact Ext.refl _ | assumption | apply Ext.alloc | apply Ext.ext | apply Ext.drew | refine Ext.setCell ?_ ?_ _) | (focus (simp [go_sem]; done))))
  · rw [hv] at hval
    obtain ⟨v1, v2, v3, v4⟩ := validR_iff.1 hv
    obtain ⟨x0, hx0⟩ : ∃ x, r[0]? = some x := ⟨_, List.getElem?_eq_getElem (by omega)⟩
    have hhd : hd r = x0 := by unfold hd; rw [List.getD_eq_getElem?_getD, hx0]; rfl
    obtain ⟨x1, x2, x3⟩ := v1 x0 (List.mem_of_getElem? hx0)
    obtain ⟨id, ky⟩ := x0
    simp only at x1 x2 x3
    obtain ⟨K, hK⟩ : ∃ K, expandK ky nextS 32 = K := ⟨_, rfl⟩
    have hrot : rotR r = ((id + 1) % 4294967296, K) :: r.take 3 := by unfold rotR; rw [hhd, hK]
    have hbits := i64_and32 (id + 1)
    obtain ⟨nid, hnid⟩ : ∃ i, (id + 1) % 4294967296 = i := ⟨_, rfl⟩
    rw [hnid] at hrot hbits
    obtain ⟨m, hm⟩ : ∃ m : Nat, m = min n 3 := ⟨_, rfl⟩
    have hmn : m ≤ n := by omega
    have hm3 : m ≤ 3 := by omega
    have htk : r.take 3 = r.take m := by
      by_cases h : n ≤ 3
      · rw [List.take_of_length_le (by omega), List.take_of_length_le (by omega)]
      · rw [show m = 3 by omega]
    rw [htk] at hrot
    obtain ⟨b, off, g, cg, rfl, hb, hc0, hc1, hSd, hcd⟩ := hI.at 0 (by omega) _ hx0
    simp only at hc0 hc1 hSd hcd
    rw [x3] at hc1 hSd hcd
    have hdr : ∀ W, Sl W g 32 ky → Calls Tryz.prog 51 #[.slice g 32 cg, .string ⟨#[115, 101, 99, 116, 105, 109, 101, 32, 110, 101, 120, 116]⟩] W (Rdl 32 K W) := fun W h => by
      have := derived_any g 32 cg ky nextS W h hcd (by omega) (by decide)
      rwa [hK] at this
    have hmin : min (n : Int) 3 = (m : Int) := by omega
    have hrd := rd_two (w := w) (o := off + 0 * 2) hb.lt hc0 hc1
    rw [Nat.zero_mul, Nat.add_zero] at hrd hc0 hc1
    have hres : rotateE r = if validR (rotR r) = true then (rotR r, 0) else ([], 7) := by
      unfold rotateE
      rw [if_neg (by rw [hv]; simp)]
      by_cases hin : ((hd r).1 + 1) % 4294967296 ∈ (r.take 3).map (·.1)
      · rw [if_pos hin, rot_bad hv hin]; rfl
      · rw [if_neg hin, rotR_valid hv hin]; rfl
    rw [hrot] at hres
    have HR := Lib.hid hres
    have HM := Lib.hid hm
    have hrl2 : (((nid, K) :: r.take m) : Ring).length = m + 1 := by simp; omega
    have hval2 := fun a W h => ckvalid_any a (m + 1) (m + 1) ((nid, K) :: r.take m) W h (Nat.le_refl _) (by omega)
    clear hres hrot hK hhd htk hm
    haveI := hb
    go_enter Tryz.func34, Tryz.ntmps34
    go_wp2_with (first
      | (go_at_call 22; refine (hval _ (hI.ext (by repeat (first | (with_reducible first | exact Ext.refl _ | assumption | apply Ext.alloc | apply Ext.ext | apply Ext.drew | refine Ext.setCell ?_ ?_ _) | (focus (simp [go_sem]; done)))))).mono ?_; rintro e w1 ⟨rfl, hxq⟩; obtain ⟨xq, rfl⟩ := hxq.out; clear hxq)
      | (refine wpList_load_arr (RM2) rfl _ rfl (b) (off) rfl ([.int .i64 id, .slice g 32 cg]) ((hrd.ext (by repeat (first | (with_reducible first | exact Ext.refl _ | assumption | apply Ext.alloc | apply Ext.ext | apply Ext.drew | refine Ext.setCell ?_ ?_ _) | (focus (simp [go_sem]; done)))))) (rfl) ?_)
      | (refine wpList_alloc_store (RM2) rfl rfl _ _ rfl rfl rfl rfl (by simp [Act.put]) ([.int .i64 id, .slice g 32 cg]) rfl (by simp) (rfl) ((by simp; repeat' (first | rfl | constructor))) ?_; intro x hz _)
      | fail)
    generalize hg4 : (((w.alloc (.cells #[.slice (some ⟨b, off, none⟩) n c] 24)).alloc (.cells #[.slice none 0 0] 24)).ext xq).heap.size = g4 at *
    have hle4 : w.heap.size + 2 ≤ g4 := by rw [← hg4]; have := (Ext.of_ext ((w.alloc (.cells #[.slice (some ⟨b, off, none⟩) n c] 24)).alloc (.cells #[.slice none 0 0] 24)) xq).size; simp at this; omega
    clear hg4
    refine nameW ?_
    intro W hW
    have hEW : Ext w W := by rw [hW]; exact (by repeat (first | (with_reducible first | exact Ext.refl _ | assumption | apply Ext.alloc | apply Ext.ext | apply Ext.drew | refine Ext.setCell ?_ ?_ _) | (focus (simp [go_sem]; done))))
    have hB1 : Blk W w.heap.size 24 [.slice (some ⟨b, off, none⟩) n c] := by rw [hW]; exact (by repeat (first | assumption | (refine Blk.newAt _ _ _ _ ?_; first | rfl | (simp only [World.size_alloc]; done)) | apply Blk.ext | apply Blk.alloc | (refine Blk.other ?_ ?_ _; rotate_left; (simp <;> omega))))
    have hB2 : Blk W (w.heap.size + 1) 24 [.slice none 0 0] := by rw [hW]; exact (by repeat (first | assumption | (refine Blk.newAt _ _ _ _ ?_; first | rfl | (simp only [World.size_alloc]; done)) | apply Blk.ext | apply Blk.alloc | (refine Blk.other ?_ ?_ _; rotate_left; (simp <;> omega))))
    rw [← hW] at hz
    clear hW
    have f0 : W.cell? ⟨g4, 0, none⟩ = some (.int .i64 id) := hz.cell? 0 rfl
    have f1 : W.cell? ⟨g4, 1, none⟩ = some (.slice g 32 cg) := hz.cell? 1 rfl
    haveI := hz.blt
    have hSW := hSd.ext hEW
    have hW2 := hB2.lt
    refine wp_region_vague 10 [[], [0], [0, 1], [0, 1, 2], [], [4], [4, 5], [0, 1, 2, 3, 4, 5, 6], [0, 1, 2, 3, 4, 5, 6, 7], [0, 1, 2, 3, 4, 5, 6, 7, 8]] (by kernel_rfl) (by kernel_rfl) (by kernel_rfl) (by kernel_rfl) ?_; simp only [List.take_succ_cons, List.take_zero, List.drop_succ_cons, List.drop_zero, List.take_nil, List.drop_nil]
    (repeat (apply VD_der; (case h => (intro us w' hx hf; obtain ⟨x, rfl⟩ := hx.out; refine ⟨rfl, ?_⟩; simp [go_sem, execOp, *]; (try simp (disch := omega) only [Go.IntWalk.i64_in, Go.IntWalk.rem_in, Go.IntWalk.wrap64_in]); rfl)); (try simp only [Act.put, List.setIfInBounds_toArray, List.set_cons_succ, List.set_cons_zero])))
    (refine VD_vag (fun p => .slice (p 0).1 32 (p 0).2) (fun p w'' => Sl w'' (p 0).1 32 K ∧ 32 ≤ (p 0).2) (fun p w w' h hx => by first | exact h.ext hx | exact ⟨h.1.ext hx, h.2.ext hx⟩ | exact ⟨h.1.ext hx, h.2⟩ | exact ⟨h.1.ext hx, h.2.1.ext hx, h.2.2.ext hx⟩) (fun us w' hx hf => ⟨rfl, ?_⟩) ?_; (unfold gives; simp [go_sem, execOp]; exact (hdr _ (hSW.ext hx)).mono fun _ _ ⟨a, c, he, hS, hc, hx⟩ => ⟨_, he, fun _ => (a, c), rfl, hx, hS, hc⟩))
    (repeat (apply VD_der; (case h => (intro us w' hx hf; obtain ⟨x, rfl⟩ := hx.out; refine ⟨rfl, ?_⟩; simp [go_sem, execOp, *]; (try simp (disch := omega) only [Go.IntWalk.i64_in, Go.IntWalk.rem_in, Go.IntWalk.wrap64_in]); rfl)); (try simp only [Act.put, List.setIfInBounds_toArray, List.set_cons_succ, List.set_cons_zero])))
    (refine VD_vag (fun p => .slice (p 0).1 1 1) (fun p w'' => OwnX 48 W.heap.size w'' (p 0).1 1 1 [(nid, K)]) (fun p w w' h hx => by first | exact h.ext hx | exact ⟨h.1.ext hx, h.2.ext hx⟩ | exact ⟨h.1.ext hx, h.2⟩ | exact ⟨h.1.ext hx, h.2.1.ext hx, h.2.2.ext hx⟩) (fun us w' hx hf => ⟨rfl, ?_⟩) ?_; (unfold gives; simp [go_sem, execOp]; (obtain ⟨hS, hc⟩ := (hf _ (List.mem_append_right _ (List.mem_singleton_self _)) rfl); exact ⟨fun _ => (some ⟨w'.heap.size, 0, none⟩, 0), rfl, Ext.of_alloc _ _, OwnX.new hS hc hx.size⟩)))
    (repeat (apply VD_der; (case h => (intro us w' hx hf; obtain ⟨x, rfl⟩ := hx.out; refine ⟨rfl, ?_⟩; simp [go_sem, execOp, *]; (try simp (disch := omega) only [Go.IntWalk.i64_in, Go.IntWalk.rem_in, Go.IntWalk.wrap64_in]); rfl)); (try simp only [Act.put, List.setIfInBounds_toArray, List.set_cons_succ, List.set_cons_zero])))
    (refine VD_nil ?_; intro us w' hx hf; obtain ⟨x, rfl⟩ := hx.out; (try simp only [Act.put, List.setIfInBounds_toArray, List.set_cons_succ, List.set_cons_zero, wpList_none]); (try simp only [List.mem_cons, List.not_mem_nil, or_false, forall_eq_or_imp, forall_eq, List.nil_append, List.cons_append, List.mem_append, false_or, true_and, and_true] at hf); (try simp only [Nat.reduceAdd, Nat.zero_add] at hf); (try simp only [Nat.reduceAdd, Nat.zero_add]))
    obtain ⟨_, hX⟩ := hf
    obtain ⟨sa0, hsa0⟩ : ∃ a, (us 8 0).1 = a := ⟨_, rfl⟩
    rw [hsa0] at hX ⊢
    clear hsa0 hdr hSW
    obtain ⟨B, hB0, hBx, hO⟩ := hX
    have hB1x := hB1.ext x
    haveI := hB1x.blt
    have hr1 := hB1x.cell? 0 rfl
    have hmc : (m : Int) ≤ (c : Int) := by omega
    have hm0 : (0 : Int) ≤ (m : Int) := by omega
    go_wp2_with fail
    clear hr1
    go_loopw [5, 7, 33] (fun v5 _ v33 wr => ∃ (k : Nat) (sa : Option Addr) (sc : Nat), k ≤ m ∧ v33 = .int .i64 k ∧ v5 = .slice sa (k + 1) sc ∧ OwnI 48 wr B sa (k + 1) sc ((nid, K) :: r.take k) ∧ B ≤ wr.heap.size ∧ Blk wr (w.heap.size + 1) 24 [.slice none 0 0] ∧ Ext w wr)
      (fun _ _ v33 _ => m - (intOf v33).toNat)
    case atStart => exact ⟨0, sa0, 1, Nat.zero_le _, rfl, rfl, by rw [List.take_zero]; exact hO, hBx, hB2.ext x, hEW.ext x⟩
    case round =>
      clear hO hBx hB1x hz f0 f1 hB1
      obtain ⟨k, sa, sc, hk, rfl, rfl, hO, hBx, hB2r, hE⟩ := hrel
      by_cases hlt : k < m
      · have hki : (k : Int) < (m : Int) := by omega
        obtain ⟨xk, hxk⟩ : ∃ x, r[k]? = some x := ⟨_, List.getElem?_eq_getElem (by omega)⟩
        have hts := take_snoc hxk
        obtain ⟨_, _, y3⟩ := v1 xk (List.mem_of_getElem? hxk)
        obtain ⟨idk, kk⟩ := xk
        obtain ⟨b', off', gk, ck, hbe, hbk, d0, d1, hSk, hck⟩ := (hI.ext hE).at k (by omega) _ hxk
        injection hbe with hbe
        injection hbe with hbe1 hbe2
        subst hbe1 hbe2
        simp only at d0 d1 hSk hck y3
        rw [y3] at d1 hSk hck
        have hrdk := rd_two hbk.lt d0 d1
        haveI := hbk
        have hlt7 : ∀ q, (Value.slice sa (k + 1) sc).ownBlock = some q → q < wr.heap.size := fun q hq => by
          obtain ⟨_, xs, h2, _⟩ := hO
          exact (own_lt h2 q hq).2
        go_wp2_with (first
          | (refine wpList_load_arr (RM2) rfl _ rfl (b) (off + k * 2) rfl ([.int .i64 idk, .slice gk 32 ck]) (hrdk) (rfl) ?_)
          | (refine wpList_alloc_store (RM2) rfl rfl _ _ rfl rfl rfl rfl (by simp [Act.put]) ([.int .i64 idk, .slice gk 32 ck]) rfl (by simp) (rfl) ((by simp; repeat' (first | rfl | constructor))) ?_; intro x hz _)
          | fail)
        refine nameW ?_
        intro W3 hW3
        have hE3 : Ext wr W3 := by rw [hW3]; exact (by repeat (first | (with_reducible first | exact Ext.refl _ | assumption | apply Ext.alloc | apply Ext.ext | apply Ext.drew | refine Ext.setCell ?_ ?_ _) | (focus (simp [go_sem]; done))))
        rw [← hW3] at hz
        clear hW3
        have hO3 := hO.ext hE3
        have hB23 := hB2r.extB hE3
        have hS3 := hSk.ext hE3
        have hEw3 := hE.trans hE3
        have hB3 := Nat.le_trans hBx hE3.size
        haveI := hz.blt
        have hSE : ∀ w', Ext (W3) w' → (fun w' => Blk w' wr.heap.size 48 [.int .i64 idk, .slice gk 32 ck] ∧ w'.cell? ⟨wr.heap.size, 0, none⟩ = some (.int .i64 idk) ∧ w'.cell? ⟨wr.heap.size, 1, none⟩ = some (.slice gk 32 ck)) w' := (fun w' h => ⟨hz.extB h, (hz.extB h).cell? 0 rfl, (hz.extB h).cell? 1 rfl⟩); have hExt0 : Ext (W3) (W3).drew := Ext.drew (Ext.refl _); refine wp_region_held_drew (S := fun w' => Blk w' wr.heap.size 48 [.int .i64 idk, .slice gk 32 ck] ∧ w'.cell? ⟨wr.heap.size, 0, none⟩ = some (.int .i64 idk) ∧ w'.cell? ⟨wr.heap.size, 1, none⟩ = some (.slice gk 32 ck)) (by kernel_rfl) (hSE _ hExt0) (fun hHeld => ?_)
        refine wpAnyH_take (i := 0) (v := ?v133) rfl (by kernel_rfl) (by kernel_rfl) (by kernel_rfl) (fun _ _ _ h => h) (Or.inl ⟨by rfl, ?hy133⟩) hHeld ?_; (case hy133 => (intro w' hx; simp [go_sem, execOp, *]; (try simp (disch := omega) only [Go.IntWalk.i64_in, Go.IntWalk.rem_in, Go.IntWalk.wrap64_in]); rfl)); (try simp only [List.getElem_toArray, List.getElem_cons_succ, List.getElem_cons_zero, Act.put, List.setIfInBounds_toArray, List.set_cons_succ, List.set_cons_zero])
        refine wpAnyH_take (i := 1) (v := ?v134) rfl (by kernel_rfl) (by kernel_rfl) (by kernel_rfl) (fun _ _ _ h => h) (Or.inl ⟨by rfl, ?hy134⟩) hHeld ?_; (case hy134 => (intro w' hx; simp [go_sem, execOp, *]; (try simp (disch := omega) only [Go.IntWalk.i64_in, Go.IntWalk.rem_in, Go.IntWalk.wrap64_in]); rfl)); (try simp only [List.getElem_toArray, List.getElem_cons_succ, List.getElem_cons_zero, Act.put, List.setIfInBounds_toArray, List.set_cons_succ, List.set_cons_zero])
        refine wpAnyH_take (i := 2) (v := ?v135) rfl (by kernel_rfl) (by kernel_rfl) (by kernel_rfl) (fun _ _ _ h => h) (Or.inl ⟨by rfl, ?hy135⟩) hHeld ?_; (case hy135 => (intro w' hx; simp [go_sem, execOp, *]; (try simp (disch := omega) only [Go.IntWalk.i64_in, Go.IntWalk.rem_in, Go.IntWalk.wrap64_in]); rfl)); (try simp only [List.getElem_toArray, List.getElem_cons_succ, List.getElem_cons_zero, Act.put, List.setIfInBounds_toArray, List.set_cons_succ, List.set_cons_zero])
        refine wpAnyH_take (i := 3) (v := ?v136) rfl (by kernel_rfl) (by kernel_rfl) (by kernel_rfl) (fun _ _ _ h => h) (Or.inl ⟨by rfl, ?hy136⟩) hHeld ?_; (case hy136 => (intro w' hx; simp [go_sem, execOp, *]; (try simp (disch := omega) only [Go.IntWalk.i64_in, Go.IntWalk.rem_in, Go.IntWalk.wrap64_in]); rfl)); (try simp only [List.getElem_toArray, List.getElem_cons_succ, List.getElem_cons_zero, Act.put, List.setIfInBounds_toArray, List.set_cons_succ, List.set_cons_zero])
        refine wpAnyH_take (i := 4) (v := ?v137) rfl (by kernel_rfl) (by kernel_rfl) (by kernel_rfl) (fun _ _ _ h => h) (Or.inl ⟨by rfl, ?hy137⟩) hHeld ?_; (case hy137 => (intro w' hx; simp [go_sem, execOp, *]; (try simp (disch := omega) only [Go.IntWalk.i64_in, Go.IntWalk.rem_in, Go.IntWalk.wrap64_in]); rfl)); (try simp only [List.getElem_toArray, List.getElem_cons_succ, List.getElem_cons_zero, Act.put, List.setIfInBounds_toArray, List.set_cons_succ, List.set_cons_zero])
        (refine R5.any_only 5 (by kernel_rfl) rfl rfl ?_; unfold gives; simp [go_sem, execOp])
        (with_reducible refine (clone_any gk 32 ck kk _ (hS3.ext hExt0) (by omega)).mono ?_)
        rintro e w5 ⟨a5, c5, rfl, hO5, hx5⟩
        have hx5 : Ext W3 w5 := hExt0.trans hx5
        refine ⟨_, rfl, hSE _ hx5, ?_⟩
        (try simp only [List.getElem_toArray, List.getElem_cons_succ, List.getElem_cons_zero, Act.put, List.setIfInBounds_toArray, List.set_cons_succ, List.set_cons_zero])
        (refine R5.any_only 6 (by kernel_rfl) rfl rfl ?_; unfold gives; simp [go_sem, execOp])
        refine ⟨hSE _ hx5, ?_⟩
        (try simp only [List.getElem_toArray, List.getElem_cons_succ, List.getElem_cons_zero, Act.put, List.setIfInBounds_toArray, List.set_cons_succ, List.set_cons_zero])
        (refine R5.any_only 7 (by kernel_rfl) rfl rfl ?_; unfold gives; simp [go_sem, execOp])
        have hx6 := hx5.alloc (.cells #[.int .i64 idk, .slice a5 32 c5] 48)
        refine ⟨hSE _ hx6, ?_⟩
        (try simp only [List.getElem_toArray, List.getElem_cons_succ, List.getElem_cons_zero, Act.put, List.setIfInBounds_toArray, List.set_cons_succ, List.set_cons_zero])
        have hS5 := hO5.sl
        have hle5 := hO5.le.1
        have hB6 := Nat.le_trans hB3 hx6.size
        refine R5.only_append_i VM 8 (by kernel_rfl) rfl rfl _ _ rfl B sa (k + 1) sc _ rfl w5.heap.size 1 idk a5 32 c5 kk rfl (hO3.ext hx6) (Blk.new w5 #[.int .i64 idk, .slice a5 32 c5] 48).rd (hS5.ext (Ext.of_alloc _ _)) hle5 ((hO5.ext (Ext.of_alloc _ _)).inT (by decide)) (by omega) hB6 ?_
        intro sa' sc' w6 hO6 hg6 hb6
        have hz6 : Blk w6 wr.heap.size 48 [.int .i64 idk, .slice gk 32 ck] := (hz.extB hx6).grown hg6 (fun e => by have := hlt7 _ e; omega)
        have hR6 : Blk w6 (w.heap.size + 1) 24 [.slice none 0 0] := (hB23.extB hx6).grown hg6 ((hO3.ext hx6).blk (hB23.extB hx6) (by decide))
        have hS6 := (⟨hz6, hz6.cell? 0 rfl, hz6.cell? 1 rfl⟩ : Blk w6 wr.heap.size 48 [.int .i64 idk, .slice gk 32 ck] ∧ w6.cell? ⟨wr.heap.size, 0, none⟩ = some (.int .i64 idk) ∧ w6.cell? ⟨wr.heap.size, 1, none⟩ = some (.slice gk 32 ck))
        have hE6 : Ext w w6 := Below.trans (hEw3.trans hx6) (hb6.mono (by have := hEW.size; omega))
        refine ⟨hS6, ?_⟩
        (try simp only [List.getElem_toArray, List.getElem_cons_succ, List.getElem_cons_zero, Act.put, List.setIfInBounds_toArray, List.set_cons_succ, List.set_cons_zero])
        (refine R5.any_only 9 (by kernel_rfl) rfl rfl ?_; unfold gives; simp [go_sem, execOp])
        refine ⟨hS6, ?_⟩
        (try simp only [List.getElem_toArray, List.getElem_cons_succ, List.getElem_cons_zero, Act.put, List.setIfInBounds_toArray, List.set_cons_succ, List.set_cons_zero])
        refine wpAnyH_done (by kernel_rfl) ?_ _
        go_wp2
        go_roundw
        case rel => exact ⟨k + 1, sa', sc', by omega, by go_num, rfl, by rw [hts, ← List.cons_append]; exact hO6, Nat.le_trans hB6 hb6.size, hR6, hE6⟩
        case measure => simp [intOf]; omega
      · obtain rfl : k = m := by omega
        have hki : ¬ (k : Int) < (k : Int) := by omega
        obtain ⟨hIb, hsc⟩ := hO.ib
        haveI := hB2r.blt
        cases hvv : validR ((nid, K) :: r.take k)
        · have e : rotateE r = ([], 7) := by rw [HR.out, hvv]; rfl
          have he := Lib.hid e
          simp only [hvv] at hval2
          clear e HR
          go_wp2_with (first
            | (go_at_call 55; refine (clip_any _ _ _ _ hsc).mono ?_; rintro e w1 ⟨rfl, hxq⟩; obtain ⟨xq, rfl⟩ := hxq.out; clear hxq)
            | (go_at_call 22; refine (hval2 _ _ (hIb.ext (by repeat (first | (with_reducible first | exact Ext.refl _ | assumption | apply Ext.alloc | apply Ext.ext | apply Ext.drew | refine Ext.setCell ?_ ?_ _) | (focus (simp [go_sem]; done)))))).mono ?_; rintro e w1 ⟨rfl, hxq⟩; obtain ⟨xq, rfl⟩ := hxq.out; clear hxq)
            | (refine wpList_store_arr (RR1) rfl _ _ rfl (w.heap.size + 1) (0) rfl ([.slice none 0 0]) rfl (24) _ ((hB2r.extB (by repeat (first | (with_reducible first | exact Ext.refl _ | assumption | apply Ext.alloc | apply Ext.ext | apply Ext.drew | refine Ext.setCell ?_ ?_ _) | (focus (simp [go_sem]; done)))))) (rfl) (by simp) (by first | exact one_u8 _ | (simp; done) | (simp; (repeat' (first | rfl | constructor)))) ?_; intro w9 hB9 hM9)
            | fail)
          refine bodyPost_ret (results_arr_tmp Tryz.results34 (RR1) _ _ (w.heap.size + 1) (0) ([.slice none 0 0]) rfl (hB9.rd) (rfl) (.int .i64 7) rfl) rfl ?_
          rw [he.out]
          exact ⟨none, 0, 0, rfl, Ib.nil _ _, Nat.le_refl _, endM hE (by repeat (first | (with_reducible first | exact Ext.refl _ | assumption | apply Ext.alloc | apply Ext.ext | apply Ext.drew | refine Ext.setCell ?_ ?_ _) | (focus (simp [go_sem]; done)))) hM9 (by omega)⟩
        · have e : rotateE r = ((nid, K) :: r.take k, 0) := by rw [HR.out, hvv]; rfl
          have he := Lib.hid e
          simp only [hvv] at hval2
          clear e HR
          go_wp2_with (first
            | (go_at_call 55; refine (clip_any _ _ _ _ hsc).mono ?_; rintro e w1 ⟨rfl, hxq⟩; obtain ⟨xq, rfl⟩ := hxq.out; clear hxq)
            | (go_at_call 22; refine (hval2 _ _ (hIb.ext (by repeat (first | (with_reducible first | exact Ext.refl _ | assumption | apply Ext.alloc | apply Ext.ext | apply Ext.drew | refine Ext.setCell ?_ ?_ _) | (focus (simp [go_sem]; done)))))).mono ?_; rintro e w1 ⟨rfl, hxq⟩; obtain ⟨xq, rfl⟩ := hxq.out; clear hxq)
            | (refine wpList_store_arr (RR1) rfl _ _ rfl (w.heap.size + 1) (0) rfl ([.slice sa (k + 1) (k + 1)]) rfl (24) _ ((hB2r.extB (by repeat (first | (with_reducible first | exact Ext.refl _ | assumption | apply Ext.alloc | apply Ext.ext | apply Ext.drew | refine Ext.setCell ?_ ?_ _) | (focus (simp [go_sem]; done)))))) (rfl) (by simp) (by first | exact one_u8 _ | (simp; done) | (simp; (repeat' (first | rfl | constructor)))) ?_; intro w9 hB9 hM9)
            | fail)
          refine bodyPost_ret (results_arr_tmp Tryz.results34 (RR1) _ _ (w.heap.size + 1) (0) ([.slice sa (k + 1) (k + 1)]) rfl (hB9.rd) (rfl) (.int .i64 0) rfl) rfl ?_
          rw [he.out]
          exact ⟨_, _, _, rfl, (hIb.ext (by repeat (first | (with_reducible first | exact Ext.refl _ | assumption | apply Ext.alloc | apply Ext.ext | apply Ext.drew | refine Ext.setCell ?_ ?_ _) | (focus (simp [go_sem]; done))))).mut (hO.off (by omega)) (hB2r.extB (by repeat (first | (with_reducible first | exact Ext.refl _ | assumption | apply Ext.alloc | apply Ext.ext | apply Ext.drew | refine Ext.setCell ?_ ?_ _) | (focus (simp [go_sem]; done))))) (by simp) hM9, Nat.le_refl _, endM hE (by repeat (first | (with_reducible first | exact Ext.refl _ | assumption | apply Ext.alloc | apply Ext.ext | apply Ext.drew | refine Ext.setCell ?_ ?_ _) | (focus (simp [go_sem]; done)))) hM9 (by omega)⟩
end Go.Proofs.YtbfgeokngekdmaaGreat

/- The walks of layer 19: seal, Make, cut, ID. -/
namespace Go.Cook
open Go.Sha Go.Oct Go.Aes Go.Sec
theorem seal_facts {ky nonce p : List UInt8} (id : Int) (hk : ky.length = 32) (hn : nonce.length = 16) (hp : p.length = 68) :
    ∃ sd, (sealE ky [idB id, nonce] p) = (sd, 0) ∧ sd.length = 84 := by
  refine ⟨_, sealE_ok (cad_ok hk hn id) (by omega), ?_⟩
  simp only [List.length_append, s2v_length, stream_length, hp]
theorem getL_lt4 (l : List UInt8) (h : l.length ≤ 4) : 0 ≤ n64 (getL l) ∧ n64 (getL l) < 4294967296 := by
  unfold n64
  rw [getL_nat _ (by omega)]
  have h1 := getN_lt l
  have : (256 : Nat) ^ l.length ≤ 256 ^ 4 := Nat.pow_le_pow_right (by omega) h
  have e8 : (256 : Nat) ^ 4 = 4294967296 := by decide
  omega
end Go.Cook
namespace Go.Proofs.YtbfgeokngekdmaaGreat
open Go.RowKit Go.Sec Go.Oct Go.Sha Go.Aes Go.Cook BigFrame

set_option maxRecDepth 100000 in
set_option maxHeartbeats 4000000 in
theorem cseal_any (id : Int) (a b d : Option Addr) (ca cb cd : Nat) (ky nonce p : List UInt8) (w : World) (h0 : 0 ≤ id) (h1 : id ≤ 4294967295) (hk : Sl w a 32 ky) (hca : 32 ≤ ca) (hn : Sl w b 16 nonce) (hcb : 16 ≤ cb) (hp : Sl w d 68 p) (hcd : 68 ≤ cd) :
    Calls Tryz.prog 52 #[.agg #[.int .i64 id, .slice a 32 ca], .slice b 16 cb, .slice d 68 cd] w (Fresh 104 (idB id ++ (nonce ++ (sealE ky [idB id, nonce] p).1)) w) := by
  obtain ⟨sd, hsd, hsl⟩ := seal_facts (ky := ky) (nonce := nonce) (p := p) id hk.len hn.len hp.len
  have hseal := fun bA cA bB cB W h1 h2 h3 => seal_any a bA bB 32 ca 2 cA 68 cB ky [idB id, nonce] p W h1 hca h2 (by omega) h3
  rw [hsd] at hseal ⊢
  simp only at hseal ⊢
  rw [hsl] at hseal
  have hput := fun W => oput_any (UInt64.ofNat id.toNat) 4 (n64_int id h0 (by omega)) (show (4 : Int) = ((4 : Nat) : Int) from rfl) W (by omega)
  have hidl := idB_length id
  rw [show putL 4 (UInt64.ofNat id.toNat) = idB id from rfl] at hput
  generalize idB id = ib at *
  have hnl := hn.len
  have hw : IntKind.u64.wrap id = id := by rw [IntKind.wrap_u64]; omega
  rw [hw] at hput
  clear hsd
  go_enter Tryz.func52, Tryz.ntmps52
  go_wp2_with fail; (with_reducible refine (hput _).mono ?_); rintro e w1 ⟨a1, c1, rfl, hO1, hx1⟩
  have hle1 := hO1.le
  have hE1 : Ext w w1 := (Ext.of_alloc _ _).trans hx1
  have hB := (Blk.new w #[.int .i64 id, .slice a 32 ca] 48).extB hx1
  haveI := hB.blt
  have f1 : w1.cell? ⟨w.heap.size, 1, none⟩ = some (.slice a 32 ca) := hB.cell? 1 rfl
  have hA := bsc2 (c1 := c1) hO1.sl hle1.1 (hn.ext hE1) hcb 27
  go_wp2_with fail
  (with_reducible refine (hseal _ _ _ _ _ ((hk.ext hE1).ext (Ext.of_alloc _ _)) hA ((hp.ext hE1).ext (Ext.of_alloc _ _)) hcd).mono ?_)
  rintro e w2 ⟨a2, c2, rfl, hS2, hc2, hx2⟩
  have hE2 : Ext w1 w2 := (Ext.of_alloc _ _).trans hx2
  have hJ := bss3 (c1 := c1) (c2 := cb) (c3 := c2) (hO1.sl.ext hE2) ((hn.ext hE1).ext hE2) hS2 27
  go_wp2_with fail
  (with_reducible refine (ojoin_any _ _ _ _ _ hJ (by omega) 104 (by rw [joinL3]; simp only [List.length_append]; omega) (by omega)).mono ?_)
  rintro e w3 ⟨a3, c3, rfl, hO3, hx3⟩
  rw [joinL3] at hO3
  go_wp2
  go_ret
  have hE3 : Ext w w3 := (hE1.trans hE2).trans ((Ext.of_alloc _ _).trans hx3)
  exact ⟨_, _, rfl, hO3.mono (by have := (hE1.trans hE2).size; simp; omega), hE3⟩

/-- Bytes that the call hands back, and a code. -/
def BytesP (r : List UInt8 × Int) (w : World) (e : Ending) (w' : World) : Prop := ∃ a c, e = .returned (.tuple #[.slice a r.1.length c, .int .i64 r.2]) ∧ Sl w' a r.1.length r.1 ∧ r.1.length ≤ c ∧ Ext w w'
theorem BytesP.err (w w' : World) (e : Int) (hx : Ext w w') : BytesP ([], e) w (.returned (.tuple #[.slice none 0 0, .int .i64 e])) w' := ⟨none, 0, rfl, Sl.nil _ _, Nat.le_refl _, hx⟩

set_option maxRecDepth 100000 in
set_option maxHeartbeats 8000000 in
theorem cmake_any (a u v b : Option Addr) (n c nu cu nv cv nn cn : Nat) (r : Ring) (algo : Int) (up down nonce : List UInt8) (w : World) (hI : Ib w a n r) (hnc : n ≤ c) (hn : n ≤ 1000000) (hu : Sl w u nu up) (hcu : nu ≤ cu) (hv : Sl w v nv down) (hcv : nv ≤ cv) (hb : Sl w b nn nonce) (hcn : nn ≤ cn) :
    Calls Tryz.prog 33 #[.agg #[.slice a n c], .int .i64 algo, .agg #[.slice u nu cu, .slice v nv cv], .slice b nn cn] w (BytesP (makeE r algo up down nonce) w) := by
  have hval := fun W h => ckvalid_any a n c r W h hnc hn
  have hrl := hI.len
  have hul := hu.len
  have hvl := hv.len
  have hbl := hb.len
  cases hV : validR r
  · have e : makeE r algo up down nonce = ([], 3) := by unfold makeE; rw [if_pos hV]
    rw [e]
    rw [hV] at hval
    clear hul hvl hbl e
    go_enter Tryz.func33, Tryz.ntmps33
    go_wp2_with (first
      | (go_at_call 22; refine (hval _ (hI.ext (by repeat (first | (with_reducible first | exact Ext.refl _ | assumption | apply Ext.alloc | apply Ext.ext | apply Ext.drew | refine Ext.setCell ?_ ?_ _) | (focus (simp [go_sem]; done)))))).mono ?_; rintro e w1 ⟨rfl, hxq⟩; obtain ⟨xq, rfl⟩ := hxq.out; clear hxq)
      | fail)
    refine bodyPost_ret (v := .tuple #[.slice none 0 0, .int .i64 3]) (by simp [results, Tryz.results33, go_sem]) rfl ?_
    exact BytesP.err _ _ 3 (by repeat (first | (with_reducible first | exact Ext.refl _ | assumption | apply Ext.alloc | apply Ext.ext | apply Ext.drew | refine Ext.setCell ?_ ?_ _) | (focus (simp [go_sem]; done))))
  · rw [hV] at hval
    by_cases a1 : algo < 0
    · have e : makeE r algo up down nonce = ([], 4) := by unfold makeE; rw [if_neg (by rw [hV]; simp), if_pos (.inl a1)]
      rw [e]
      clear hul hvl hbl e
      go_enter Tryz.func33, Tryz.ntmps33
      go_wp2_with (first
        | (go_at_call 22; refine (hval _ (hI.ext (by repeat (first | (with_reducible first | exact Ext.refl _ | assumption | apply Ext.alloc | apply Ext.ext | apply Ext.drew | refine Ext.setCell ?_ ?_ _) | (focus (simp [go_sem]; done)))))).mono ?_; rintro e w1 ⟨rfl, hxq⟩; obtain ⟨xq, rfl⟩ := hxq.out; clear hxq)
        | fail)
      refine bodyPost_ret (v := .tuple #[.slice none 0 0, .int .i64 4]) (by simp [results, Tryz.results33, go_sem]) rfl ?_
      exact BytesP.err _ _ 4 (by repeat (first | (with_reducible first | exact Ext.refl _ | assumption | apply Ext.alloc | apply Ext.ext | apply Ext.drew | refine Ext.setCell ?_ ?_ _) | (focus (simp [go_sem]; done))))
    · by_cases a2 : 65535 < algo
      · have e : makeE r algo up down nonce = ([], 4) := by unfold makeE; rw [if_neg (by rw [hV]; simp), if_pos (.inr a2)]
        rw [e]
        clear hul hvl hbl e
        go_enter Tryz.func33, Tryz.ntmps33
        go_wp2_with (first
          | (go_at_call 22; refine (hval _ (hI.ext (by repeat (first | (with_reducible first | exact Ext.refl _ | assumption | apply Ext.alloc | apply Ext.ext | apply Ext.drew | refine Ext.setCell ?_ ?_ _) | (focus (simp [go_sem]; done)))))).mono ?_; rintro e w1 ⟨rfl, hxq⟩; obtain ⟨xq, rfl⟩ := hxq.out; clear hxq)
          | fail)
        refine bodyPost_ret (v := .tuple #[.slice none 0 0, .int .i64 4]) (by simp [results, Tryz.results33, go_sem]) rfl ?_
        exact BytesP.err _ _ 4 (by repeat (first | (with_reducible first | exact Ext.refl _ | assumption | apply Ext.alloc | apply Ext.ext | apply Ext.drew | refine Ext.setCell ?_ ?_ _) | (focus (simp [go_sem]; done))))
      · by_cases u32 : nu = 32
        · have u32i : (((nu : Nat) : Int) != 32) = false := by rw [bne_eq_false_iff_eq]; omega
          by_cases d32 : nv = 32
          · have d32i : (((nv : Nat) : Int) != 32) = false := by rw [bne_eq_false_iff_eq]; omega
            by_cases n16 : nn = 16
            · have n16i : (((nn : Nat) : Int) != 16) = false := by rw [bne_eq_false_iff_eq]; omega
              have e : makeE r algo up down nonce = (cookC (hd r) algo up down nonce, 0) := by unfold makeE; rw [if_neg (by rw [hV]; simp), if_neg (by omega), if_neg (by omega), if_neg (by omega)]
              obtain ⟨v1, v2, v3, v4⟩ := validR_iff.1 hV
              obtain ⟨x0, hx0⟩ : ∃ x, r[0]? = some x := ⟨_, List.getElem?_eq_getElem (by omega)⟩
              have hhd : hd r = x0 := by unfold hd; rw [List.getD_eq_getElem?_getD, hx0]; rfl
              obtain ⟨x1, x2, x3⟩ := v1 x0 (List.mem_of_getElem? hx0)
              rw [hhd] at e
              obtain ⟨id, ky⟩ := x0
              simp only at x1 x2 x3
              subst u32 d32 n16
              obtain ⟨b0, off, g, cg, rfl, hb0, hc0, hc1, hSd, hcd⟩ := hI.at 0 (by omega) _ hx0
              simp only at hc0 hc1 hSd hcd
              rw [x3] at hc1 hSd hcd
              have hrd := rd_two (w := w) (o := off + 0 * 2) hb0.lt hc0 hc1
              rw [Nat.zero_mul, Nat.add_zero] at hrd
              obtain ⟨pa, hpa⟩ : ∃ pa, putL 2 (UInt64.ofNat algo.toNat) = pa := ⟨_, rfl⟩
              have hpal : pa.length = 2 := by rw [← hpa]; exact putL_length _ _
              have hput := fun W => oput_any (UInt64.ofNat algo.toNat) 2 (n64_int algo (by omega) (by omega)) (show (2 : Int) = ((2 : Nat) : Int) from rfl) W (by omega)
              rw [hpa] at hput
              obtain ⟨pl, hpl⟩ : ∃ pl, pa ++ ([0, 0] ++ (up ++ down)) = pl := ⟨_, rfl⟩
              have hpll : pl.length = 68 := by rw [← hpl]; simp only [List.length_append, List.length_cons, List.length_nil]; omega
              have hck : cookC (id, ky) algo up down nonce = idB id ++ (nonce ++ (sealE ky [idB id, nonce] pl).1) := by unfold cookC plainC; rw [hpa, hpl]
              rw [hck] at e
              have hckl : (idB id ++ (nonce ++ (sealE ky [idB id, nonce] pl).1)).length = 104 := by
                obtain ⟨sd, h1, h2⟩ := seal_facts (ky := ky) (nonce := nonce) (p := pl) id x3 hbl hpll
                rw [h1]; simp only [List.length_append, idB_length]; omega
              have hsl := fun d cd W h1 h2 h3 h4 => cseal_any id g b d cg cn cd ky nonce pl W x1 x2 h1 hcd h2 hcn h3 h4
              generalize (idB id ++ (nonce ++ (sealE ky [idB id, nonce] pl).1)) = CK at *
              rw [e]
              have hmk : ∀ W : World, (Instr.makeSlice 27 (.int .i64 2) (.int .i64 2)).run Tryz.prog W = .ok (.slice (some ⟨W.heap.size, 0, none⟩) 2 2) (W.alloc (.cells (zerosOf (.int .u8 0) 2) 5)) := fun W => run_make_by U 2 2 (by omega) (by omega) W
              clear e hck hpa hhd hul hvl hbl
              haveI := hb0
              go_enter Tryz.func33, Tryz.ntmps33
              go_wp2_with (first
                | (go_at_call 22; refine (hval _ (hI.ext (by repeat (first | (with_reducible first | exact Ext.refl _ | assumption | apply Ext.alloc | apply Ext.ext | apply Ext.drew | refine Ext.setCell ?_ ?_ _) | (focus (simp [go_sem]; done)))))).mono ?_; rintro e w1 ⟨rfl, hxq⟩; obtain ⟨xq, rfl⟩ := hxq.out; clear hxq)
                | fail)
              refine nameW ?_
              intro W hW
              have hEW : Ext w W := by rw [hW]; exact (by repeat (first | (with_reducible first | exact Ext.refl _ | assumption | apply Ext.alloc | apply Ext.ext | apply Ext.drew | refine Ext.setCell ?_ ?_ _) | (focus (simp [go_sem]; done))))
              have hB1 : Blk W w.heap.size 24 [.slice (some ⟨b0, off, none⟩) n c] := by rw [hW]; exact (by repeat (first | assumption | (refine Blk.newAt _ _ _ _ ?_; first | rfl | (simp only [World.size_alloc]; done)) | apply Blk.ext | apply Blk.alloc | (refine Blk.other ?_ ?_ _; rotate_left; (simp <;> omega))))
              have hB2 : Blk W (w.heap.size + 1) 32 [.slice u 32 cu, .slice v 32 cv] := by rw [hW]; exact (by repeat (first | assumption | (refine Blk.newAt _ _ _ _ ?_; first | rfl | (simp only [World.size_alloc]; done)) | apply Blk.ext | apply Blk.alloc | (refine Blk.other ?_ ?_ _; rotate_left; (simp <;> omega))))
              clear hW
              have f0 := hB1.cell? 0 rfl
              have f1 := hB2.cell? 0 rfl
              have f2 : W.cell? ⟨w.heap.size + 1, 1, none⟩ = some (.slice v 32 cv) := hB2.cell? 1 rfl
              haveI := hB1.blt
              haveI := hB2.blt
              have hkW := hSd.ext hEW
              have huW := hu.ext hEW
              have hvW := hv.ext hEW
              have hbW := hb.ext hEW
              have hrdW := hrd.ext hEW
              have hn0 : 0 < n := by omega
              refine wp_region_vague 18 [[], [0], [0, 1], [0, 1, 2], [], [], [5], [5, 6], [], [], [9], [], [11], [5, 6, 7, 8, 9, 10, 11, 12], [5, 6, 7, 8, 9, 10, 11, 12, 13], [0, 1, 2, 3, 4, 5, 6, 7, 8, 9, 10, 11, 12, 13, 14], [0, 1, 2, 3, 4, 5, 6, 7, 8, 9, 10, 11, 12, 13, 14, 15], [0, 1, 2, 3, 4, 5, 6, 7, 8, 9, 10, 11, 12, 13, 14, 15, 16]] (by kernel_rfl) (by kernel_rfl) (by kernel_rfl) (by kernel_rfl) ?_; simp only [List.take_succ_cons, List.take_zero, List.drop_succ_cons, List.drop_zero, List.take_nil, List.drop_nil]
              (repeat (apply VD_der; (case h => (intro us w' hx hf; obtain ⟨x, rfl⟩ := hx.out; refine ⟨rfl, ?_⟩; simp [go_sem, execOp, *]; (try simp (disch := omega) only [Go.IntWalk.i64_in, Go.IntWalk.rem_in, Go.IntWalk.wrap64_in]); rfl)); (try simp only [Act.put, List.setIfInBounds_toArray, List.set_cons_succ, List.set_cons_zero])))
              (refine VD_load_arr (RM2) _ rfl (fun _ => rfl) (b0) (off) (fun _ => by simp [go_sem]) ([.int .i64 id, .slice g 32 cg]) (hrdW) (rfl) ?_)
              (repeat (apply VD_der; (case h => (intro us w' hx hf; obtain ⟨x, rfl⟩ := hx.out; refine ⟨rfl, ?_⟩; simp [go_sem, execOp, *]; (try simp (disch := omega) only [Go.IntWalk.i64_in, Go.IntWalk.rem_in, Go.IntWalk.wrap64_in]); rfl)); (try simp only [Act.put, List.setIfInBounds_toArray, List.set_cons_succ, List.set_cons_zero])))
              (refine VD_vag (fun p => .slice (p 0).1 (2) (p 0).2) (fun p w'' => Own w'' 0 (p 0).1 (2) (p 0).2 (pa)) (fun p w w' h hx => h.ext hx) (fun us w' hx hf => ⟨rfl, ?_⟩) ?_; (unfold gives; simp [go_sem, execOp]; exact vag_fresh (Nat.zero_le _) (hput _)))
              (refine VD_vag (fun p => .slice (p 0).1 (2) (2)) (fun p w'' => Sl w'' (p 0).1 (2) ([0, 0])) (fun p w w' h hx => h.ext hx) (fun us w' hx hf => ⟨rfl, ?_⟩) ?_; (unfold gives; simp [go_sem, execOp, hmk]; exact ⟨fun _ => (some ⟨w'.heap.size, 0, none⟩, 0), rfl, Ext.of_alloc _ _, (blk_zeros8 _ _).sl rfl⟩))
              (repeat (apply VD_der; (case h => (intro us w' hx hf; obtain ⟨x, rfl⟩ := hx.out; refine ⟨rfl, ?_⟩; simp [go_sem, execOp, *]; (try simp (disch := omega) only [Go.IntWalk.i64_in, Go.IntWalk.rem_in, Go.IntWalk.wrap64_in]); rfl)); (try simp only [Act.put, List.setIfInBounds_toArray, List.set_cons_succ, List.set_cons_zero])))
              (refine VD_vag (fun p => .slice (p 0).1 (4) (4)) (fun p w'' => Bss w'' (p 0).1 (4) ([pa, [0, 0], up, down])) (fun p w w' h hx => h.ext hx) (fun us w' hx hf => ⟨rfl, ?_⟩) ?_; (unfold gives; simp [go_sem, execOp]; exact ⟨fun _ => (some ⟨w'.heap.size, 0, none⟩, 0), rfl, Ext.of_alloc _ _, bss4 ((hf _ (List.mem_append_left _ (List.mem_append_right _ (List.mem_singleton_self _))) rfl)).sl (hf _ (List.mem_append_right _ (List.mem_singleton_self _)) rfl) (huW.ext hx) (hvW.ext hx) _⟩))
              (refine VD_vag (fun p => .slice (p 0).1 (68) (p 0).2) (fun p w'' => Own w'' 0 (p 0).1 (68) (p 0).2 (pl)) (fun p w w' h hx => h.ext hx) (fun us w' hx hf => ⟨rfl, ?_⟩) ?_; (unfold gives; simp [go_sem, execOp]; exact vag_fresh (Nat.zero_le _) ((by have := ojoin_any _ 4 4 [pa, [0, 0], up, down] w' (by exact (hf _ (List.mem_append_right _ (List.mem_singleton_self _)) rfl)) (by omega) 68 (by rw [joinL4, hpl]; exact hpll) (by omega); rw [joinL4, hpl] at this; exact this))))
              (refine VD_vag (fun p => .slice (p 0).1 (104) (p 0).2) (fun p w'' => Own w'' 0 (p 0).1 (104) (p 0).2 (CK)) (fun p w w' h hx => h.ext hx) (fun us w' hx hf => ⟨rfl, ?_⟩) ?_; (unfold gives; simp [go_sem, execOp]; exact vag_fresh (Nat.zero_le _) (hsl _ _ _ (hkW.ext hx) (hbW.ext hx) ((hf _ (List.mem_append_right _ (List.mem_singleton_self _)) rfl)).sl ((hf _ (List.mem_append_right _ (List.mem_singleton_self _)) rfl)).le.1)))
              (repeat (apply VD_der; (case h => (intro us w' hx hf; obtain ⟨x, rfl⟩ := hx.out; refine ⟨rfl, ?_⟩; simp [go_sem, execOp, *]; (try simp (disch := omega) only [Go.IntWalk.i64_in, Go.IntWalk.rem_in, Go.IntWalk.wrap64_in]); rfl)); (try simp only [Act.put, List.setIfInBounds_toArray, List.set_cons_succ, List.set_cons_zero])))
              (refine VD_nil ?_; intro us w' hx hf; obtain ⟨x, rfl⟩ := hx.out; (try simp only [Act.put, List.setIfInBounds_toArray, List.set_cons_succ, List.set_cons_zero, wpList_none]); (try simp only [List.mem_cons, List.not_mem_nil, or_false, forall_eq_or_imp, forall_eq, List.nil_append, List.cons_append, List.mem_append, false_or, true_and, and_true] at hf); (try simp only [Nat.reduceAdd, Nat.zero_add] at hf); (try simp only [Nat.reduceAdd, Nat.zero_add]))
              obtain ⟨_, _, _, _, hO⟩ := hf
              go_wp2_with fail
              refine bodyPost_ret (v := .tuple #[.slice (us 15 0).1 104 (us 15 0).2, .int .i64 0]) (by simp [results, Tryz.results33, go_sem]) rfl ?_
              show ∃ a c, _ = Ending.returned (.tuple #[.slice a CK.length c, .int .i64 0]) ∧ Sl _ a CK.length CK ∧ CK.length ≤ c ∧ Ext w _
              rw [hckl]
              exact ⟨_, _, rfl, hO.sl, hO.le.1, hEW.ext x⟩
            · have e : makeE r algo up down nonce = ([], 3) := by unfold makeE; rw [if_neg (by rw [hV]; simp), if_neg (by omega), if_neg (by omega), if_pos (by omega)]
              rw [e]
              have n16i : (((nn : Nat) : Int) != 16) = true := by rw [bne_iff_ne]; omega
              clear hul hvl hbl e n16 u32 d32
              go_enter Tryz.func33, Tryz.ntmps33
              go_wp2_with (first
                | (go_at_call 22; refine (hval _ (hI.ext (by repeat (first | (with_reducible first | exact Ext.refl _ | assumption | apply Ext.alloc | apply Ext.ext | apply Ext.drew | refine Ext.setCell ?_ ?_ _) | (focus (simp [go_sem]; done)))))).mono ?_; rintro e w1 ⟨rfl, hxq⟩; obtain ⟨xq, rfl⟩ := hxq.out; clear hxq)
                | fail)
              refine bodyPost_ret (v := .tuple #[.slice none 0 0, .int .i64 3]) (by simp [results, Tryz.results33, go_sem]) rfl ?_
              exact BytesP.err _ _ 3 (by repeat (first | (with_reducible first | exact Ext.refl _ | assumption | apply Ext.alloc | apply Ext.ext | apply Ext.drew | refine Ext.setCell ?_ ?_ _) | (focus (simp [go_sem]; done))))
          · have e : makeE r algo up down nonce = ([], 5) := by unfold makeE; rw [if_neg (by rw [hV]; simp), if_neg (by omega), if_pos (by omega)]
            rw [e]
            have d32i : (((nv : Nat) : Int) != 32) = true := by rw [bne_iff_ne]; omega
            clear hul hvl hbl e u32 d32
            go_enter Tryz.func33, Tryz.ntmps33
            go_wp2_with (first
              | (go_at_call 22; refine (hval _ (hI.ext (by repeat (first | (with_reducible first | exact Ext.refl _ | assumption | apply Ext.alloc | apply Ext.ext | apply Ext.drew | refine Ext.setCell ?_ ?_ _) | (focus (simp [go_sem]; done)))))).mono ?_; rintro e w1 ⟨rfl, hxq⟩; obtain ⟨xq, rfl⟩ := hxq.out; clear hxq)
              | fail)
            refine bodyPost_ret (v := .tuple #[.slice none 0 0, .int .i64 5]) (by simp [results, Tryz.results33, go_sem]) rfl ?_
            exact BytesP.err _ _ 5 (by repeat (first | (with_reducible first | exact Ext.refl _ | assumption | apply Ext.alloc | apply Ext.ext | apply Ext.drew | refine Ext.setCell ?_ ?_ _) | (focus (simp [go_sem]; done))))
        · have e : makeE r algo up down nonce = ([], 5) := by unfold makeE; rw [if_neg (by rw [hV]; simp), if_neg (by omega), if_pos (by omega)]
          rw [e]
          have u32i : (((nu : Nat) : Int) != 32) = true := by rw [bne_iff_ne]; omega
          clear hul hvl hbl e u32
          go_enter Tryz.func33, Tryz.ntmps33
          go_wp2_with (first
            | (go_at_call 22; refine (hval _ (hI.ext (by repeat (first | (with_reducible first | exact Ext.refl _ | assumption | apply Ext.alloc | apply Ext.ext | apply Ext.drew | refine Ext.setCell ?_ ?_ _) | (focus (simp [go_sem]; done)))))).mono ?_; rintro e w1 ⟨rfl, hxq⟩; obtain ⟨xq, rfl⟩ := hxq.out; clear hxq)
            | fail)
          refine bodyPost_ret (v := .tuple #[.slice none 0 0, .int .i64 5]) (by simp [results, Tryz.results33, go_sem]) rfl ?_
          exact BytesP.err _ _ 5 (by repeat (first | (with_reducible first | exact Ext.refl _ | assumption | apply Ext.alloc | apply Ext.ext | apply Ext.drew | refine Ext.setCell ?_ ?_ _) | (focus (simp [go_sem]; done))))

/-- The parts of a cookie. -/
def CutP (l : List UInt8) (w : World) (e : Ending) (w' : World) : Prop := ∃ a1 c1 a2 c2 a3 c3, e = .returned (.tuple #[.slice a1 4 c1, .slice a2 16 c2, .slice a3 84 c3]) ∧ Sl w' a1 4 (l.take 4) ∧ 4 ≤ c1 ∧ Sl w' a2 16 ((l.drop 4).take 16) ∧ 16 ≤ c2 ∧ Sl w' a3 84 (l.drop 20) ∧ 84 ≤ c3 ∧ Ext w w'
set_option maxRecDepth 100000 in
set_option maxHeartbeats 4000000 in
theorem ccut_any (a : Option Addr) (c : Nat) (l : List UInt8) (w : World) (h : Sl w a 104 l) (hc : 104 ≤ c) :
    Calls Tryz.prog 23 #[.slice a 104 c] w (CutP l w) := by
  have h1 := h.take 4 (by omega)
  have h2 := (h.drop c 4 hc).take 16 (by omega)
  have h3 := h.drop c 20 hc
  have k1 : (4 : Int) ≤ (c : Int) := by omega
  have k2 : (20 : Int) ≤ (c : Int) := by omega
  have k3 : (104 : Int) ≤ (c : Int) := by omega
  have l1 : 4 ≤ c := by omega
  have l2 : 20 ≤ c := by omega
  go_enter Tryz.func23, Tryz.ntmps23
  go_wp2
  refine wp_region_vague 9 [[], [0], [], [2], [], [4], [0, 1], [0, 1, 2, 3, 6], [0, 1, 2, 3, 4, 5, 6, 7]] (by kernel_rfl) (by kernel_rfl) (by kernel_rfl) (by kernel_rfl) ?_; simp only [List.take_succ_cons, List.take_zero, List.drop_succ_cons, List.drop_zero, List.take_nil, List.drop_nil]
  (repeat (apply VD_der; (case h => (intro us w' hx hf; obtain ⟨x, rfl⟩ := hx.out; refine ⟨rfl, ?_⟩; simp [go_sem, execOp, *]; (try simp (disch := omega) only [Go.IntWalk.i64_in, Go.IntWalk.rem_in, Go.IntWalk.wrap64_in]); rfl)); (try simp only [Act.put, List.setIfInBounds_toArray, List.set_cons_succ, List.set_cons_zero])))
  (refine VD_nil ?_; intro us w' hx hf; obtain ⟨x, rfl⟩ := hx.out; (try simp only [Act.put, List.setIfInBounds_toArray, List.set_cons_succ, List.set_cons_zero, wpList_none]); (try simp only [List.mem_cons, List.not_mem_nil, or_false, forall_eq_or_imp, forall_eq, List.nil_append, List.cons_append, List.mem_append, false_or, true_and, and_true] at hf); (try simp only [Nat.reduceAdd, Nat.zero_add] at hf); (try simp only [Nat.reduceAdd, Nat.zero_add]))
  go_wp2_with fail
  refine bodyPost_ret (v := .tuple #[.slice a 4 c, .slice (sAdr a c 4 1) 16 (c - 4), .slice (sAdr a c 20 1) 84 (c - 20)]) (by simp [results, Tryz.results23, go_sem]) rfl ?_
  exact ⟨_, _, _, _, _, _, rfl, h1.ext (Ext.of_ext _ _), by omega, h2.ext (Ext.of_ext _ _), by omega, h3.ext (Ext.of_ext _ _), by omega, Ext.of_ext _ _⟩
end Go.Proofs.YtbfgeokngekdmaaGreat

/- The walks of layer 19: Open. -/
namespace Go.Sec
open Go.RowKit
theorem results_tctt {P : Program} {fn : Func} {q p u u2 : Tmp} {T : TypeId} {n : Nat} (h : fn.results = #[.tmp q, .cell p T, .tmp u, .tmp u2]) (hT : RowT P T n) (tmps : Array Value) (w : World) (g o : Nat) (cs : List Value) (hp : tmps.getD p undef = .pointer (some ⟨g, o, none⟩))
    (hR : Rd w (some ⟨g, o, none⟩) cs) (hn : cs.length = n) (v v2 v3 : Value) (hv : tmps.getD q undef = v) (hv2 : tmps.getD u undef = v2) (hv3 : tmps.getD u2 undef = v3) : (results fn tmps).run P w = .ok (.tuple #[v, .agg cs.toArray, v2, v3]) w := by
  have hp' : tmps[p]?.getD undef = .pointer (some ⟨g, o, none⟩) := by simpa using hp
  subst hv hv2 hv3
  simp [results, h, hp', asAddr, loadVar_arr hT w g o cs hR hn]
end Go.Sec
namespace Go.Cook
open Go.Sha Go.Oct Go.Aes Go.Sec
def ageI (r : Ring) (c : List UInt8) : Int := match ageOf r c with | none => -1 | some i => (i : Int)
theorem ageI_at {r : Ring} {c : List UInt8} {k : Nat} {x : Int × List UInt8} (hx : r[k]? = some x) (h0 : ∀ m ∈ r.take k, m.1 ≠ idOf c) (h : x.1 = idOf c) : ageOf r c = some k := by
  unfold ageOf
  obtain ⟨hi, he⟩ := List.getElem?_eq_some_iff.1 hx
  rw [List.findIdx?_eq_some_iff_getElem]
  refine ⟨hi, by rw [he]; simpa using h, fun j hj => ?_⟩
  have := h0 r[j] (List.mem_take_iff_getElem.2 ⟨j, by omega, rfl⟩)
  simpa using this
theorem ageI_no {r : Ring} {c : List UInt8} (h0 : ∀ m ∈ r, m.1 ≠ idOf c) : ageOf r c = none := by
  unfold ageOf
  rw [List.findIdx?_eq_none_iff]
  intro m hm
  simpa using h0 m hm
theorem age_some {r : Ring} {c : List UInt8} {i : Nat} (h : ageOf r c = some i) : i < r.length ∧ True := by
  unfold ageOf at h
  rw [List.findIdx?_eq_some_iff_getElem] at h
  exact ⟨h.1, trivial⟩
theorem openE_len {ky : List UInt8} {A : List (List UInt8)} {s : List UInt8} : (openE ky A s).2 = 0 → (openE ky A s).1.length = s.length - 16 := by
  intro h
  unfold openE at h ⊢
  by_cases h1 : checkA ky A ≠ 0
  · rw [if_pos h1] at h; exact absurd h h1
  · rw [if_neg h1] at h ⊢
    by_cases h2 : 65535 < s.length
    · rw [if_pos h2] at h; cases h
    · rw [if_neg h2] at h ⊢
      by_cases h3 : s.length < 16
      · rw [if_pos h3] at h; cases h
      · rw [if_neg h3] at h ⊢
        by_cases h4 : (tagE ky A (plainOf ky s)).1 = s.take 16
        · rw [if_pos h4]; exact plainOf_length
        · rw [if_neg h4] at h; cases h
theorem get2_zero (l : List UInt8) (h : l.length = 2) : n64 (getL l) = 0 ↔ l = [0, 0] := by
  constructor
  · intro h0
    have h1 := getL_nat l (by omega)
    unfold Go.Sec.n64 at h0
    have h2 : getN l = 0 := by omega
    exact getN_inj l [0, 0] (by rw [h]; rfl) (by rw [h2]; rfl)
  · rintro rfl; rfl
end Go.Cook
namespace Go.Proofs.YtbfgeokngekdmaaGreat
open Go.RowKit Go.Sec Go.Oct Go.Sha Go.Aes Go.Cook BigFrame

theorem RP2 : RowT Tryz.prog 32 2 := ⟨⟨_, Tryz.underlying32, rfl⟩, by kernel_rfl, ⟨_, Tryz.zeroValue32, by kernel_rfl⟩⟩
set_option maxRecDepth 100000 in
set_option maxHeartbeats 4000000 in
theorem open1_any (id : Int) (g : Option Addr) (m cg gB : Nat) (a1 : Option Addr) (c1 : Nat) (ib : List UInt8) (w : World) (h0 : 0 ≤ id) (h1 : id ≤ 4294967295) (hB : Blk w gB 27 [.slice a1 4 c1]) (hS : Sl w a1 4 ib) (hc : 4 ≤ c1) :
    Calls Tryz.prog 25 #[.agg #[.int .i64 id, .slice g m cg], .pointer (some ⟨gB, 0, none⟩)] w fun e w' => e = .returned (.bool (id == n64 (getL ib))) ∧ Ext w w' := by
  have hlt := hB.lt
  have hget := fun W H => oget_any a1 4 c1 ib W H hc (by omega)
  have hw : IntKind.u64.wrap id = id := by rw [IntKind.wrap_u64]; omega
  haveI := hB.blt
  have f0 := hB.cell? 0 rfl
  go_enter Tryz.func25, Tryz.ntmps25
  go_wp2
  obtain ⟨W, hW⟩ : ∃ W, W = w.alloc (.cells #[.int .i64 id, .slice g m cg] 48) := ⟨_, rfl⟩
  have hxW : Ext w W := by rw [hW]; exact (by repeat (first | (with_reducible first | exact Ext.refl _ | assumption | apply Ext.alloc | apply Ext.ext | apply Ext.drew | refine Ext.setCell ?_ ?_ _) | (focus (simp [go_sem]; done))))
  have hM : Blk W w.heap.size 48 [.int .i64 id, .slice g m cg] := by rw [hW]; exact (by repeat (first | assumption | (refine Blk.newAt _ _ _ _ ?_; first | rfl | (simp only [World.size_alloc]; done)) | apply Blk.ext | apply Blk.alloc | (refine Blk.other ?_ ?_ _; rotate_left; (simp <;> omega))))
  have hB := hB.extB hxW
  have hS := hS.ext hxW
  rw [← hW]
  clear hW
  haveI := hM.blt
  haveI := hB.blt
  have f1 := hM.cell? 0 rfl
  have f0 := hB.cell? 0 rfl
  refine wp_region_vague 7 [[], [0], [0, 1], [], [3], [0, 1, 2, 3, 4], [0, 1, 2, 3, 4, 5]] (by kernel_rfl) (by kernel_rfl) (by kernel_rfl) (by kernel_rfl) ?_; simp only [List.take_succ_cons, List.take_zero, List.drop_succ_cons, List.drop_zero, List.take_nil, List.drop_nil]
  (repeat (apply VD_der; (case h => (intro us w' hx hf; obtain ⟨x, rfl⟩ := hx.out; refine ⟨rfl, ?_⟩; simp [go_sem, execOp, *]; (try simp (disch := omega) only [Go.IntWalk.i64_in, Go.IntWalk.rem_in, Go.IntWalk.wrap64_in]); rfl)); (try simp only [Act.put, List.setIfInBounds_toArray, List.set_cons_succ, List.set_cons_zero])))
  (refine VD_vag (fun _ => .int .u64 (n64 (getL ib))) (fun _ _ => True) (fun _ _ _ _ _ => trivial) (fun us w' hx hf => ⟨rfl, ?_⟩) ?_; (unfold gives; simp [go_sem, execOp]; refine (hget _ (hS.ext hx)).mono ?_; rintro e w1 ⟨rfl, hx1⟩; first | exact ⟨rfl, hx1⟩ | simpa using hx1))
  (repeat (apply VD_der; (case h => (intro us w' hx hf; obtain ⟨x, rfl⟩ := hx.out; refine ⟨rfl, ?_⟩; simp [go_sem, execOp, *]; (try simp (disch := omega) only [Go.IntWalk.i64_in, Go.IntWalk.rem_in, Go.IntWalk.wrap64_in]); rfl)); (try simp only [Act.put, List.setIfInBounds_toArray, List.set_cons_succ, List.set_cons_zero])))
  (refine VD_nil ?_; intro us w' hx hf; obtain ⟨x, rfl⟩ := hx.out; (try simp only [Act.put, List.setIfInBounds_toArray, List.set_cons_succ, List.set_cons_zero, wpList_none]); (try simp only [List.mem_cons, List.not_mem_nil, or_false, forall_eq_or_imp, forall_eq, List.nil_append, List.cons_append, List.mem_append, false_or, true_and, and_true] at hf); (try simp only [Nat.reduceAdd, Nat.zero_add] at hf); (try simp only [Nat.reduceAdd, Nat.zero_add]))
  go_wp2
  go_ret
  exact ⟨rfl, hxW.ext x⟩

set_option maxRecDepth 100000 in
set_option maxHeartbeats 4000000 in
theorem ckindex_any (a : Option Addr) (n c : Nat) (r : Ring) (gB : Nat) (a1 : Option Addr) (c1 : Nat) (ck : List UInt8) (w : World) (hI : Ib w a n r) (hn : n ≤ 1000000) (hr : ∀ m ∈ r, 0 ≤ m.1 ∧ m.1 ≤ 4294967295) (hB : Blk w gB 27 [.slice a1 4 c1]) (hS : Sl w a1 4 (ck.take 4)) (hc : 4 ≤ c1) :
    Calls Tryz.prog 24 #[.slice a n c, .func (.func 25) #[] #[.pointer (some ⟨gB, 0, none⟩)]] w fun e w' => e = .returned (.int .i64 (ageI r ck)) ∧ Ext w w' := by
  have hl := hI.len
  have ho1 := fun id g m cg W k0 k1 H1 H2 => open1_any id g m cg gB a1 c1 (ck.take 4) W k0 k1 H1 H2 hc
  rw [show n64 (getL (ck.take 4)) = idOf ck from rfl] at ho1
  go_enter Tryz.func24, Tryz.ntmps24
  go_wp2_with fail
  go_loopw [5, 8] (fun _ v8 wr => ∃ i : Nat, i ≤ n ∧ v8 = .int .i64 i ∧ Hid (∀ m ∈ r.take i, m.1 ≠ idOf ck) ∧ Ext w wr) (fun _ v8 _ => n - (intOf v8).toNat)
  case atStart => exact ⟨0, by omega, rfl, Lib.hid (by simp), Ext.refl _⟩
  case round =>
    obtain ⟨i, hi, rfl, hm, hx⟩ := hrel
    by_cases hlt : i < n
    · obtain ⟨x, hxi⟩ : ∃ x, r[i]? = some x := ⟨_, List.getElem?_eq_getElem (by omega)⟩
      obtain ⟨r0, r1⟩ := hr x (List.mem_of_getElem? hxi)
      obtain ⟨b0, o0, g', c', rfl, hb0, hc0, hc1, hSk, hck⟩ := (hI.ext hx).at i hlt _ hxi
      have hrd := rd_two hb0.lt hc0 hc1
      have i0 : (0 : Int) ≤ (i : Int) := by omega
      have i1 : (i : Int) < (n : Int) := by omega
      have hat := Lib.hid (fun h => ageI_at hxi hm.out h)
      have hts := take_snoc hxi
      haveI := hb0
      go_wp2_with (first
        | (refine wpList_load_arr (RM2) rfl _ rfl (b0) (o0 + i * 2) rfl ([.int .i64 x.1, .slice g' x.2.length c']) (hrd) (rfl) ?_)
        | fail)
      (with_reducible refine (ho1 _ _ _ _ _ r0 r1 (hB.extB hx) (hS.ext hx)).mono ?_); rintro e w1 ⟨rfl, hx1⟩
      by_cases hid : x.1 = idOf ck
      · have hage := hat.out hid
        have hb : (x.1 == idOf ck) = true := by simpa using hid
        have HR := Lib.hid (show ageI r ck = (i : Int) by unfold ageI; rw [hage])
        clear hage hid hts
        go_wp2_with fail
        go_ret
        exact ⟨by rw [HR.out]; rfl, hx.trans hx1⟩
      · have hb : (x.1 == idOf ck) = false := by simpa using hid
        have hm2 := Lib.hid (show ∀ m ∈ r.take (i + 1), m.1 ≠ idOf ck by
          rw [hts]
          intro m hm'
          rcases List.mem_append.1 hm' with h | h
          · exact hm.out m h
          · rw [List.mem_singleton.1 h]; exact hid)
        clear hid hts
        go_wp2_with fail
        go_roundw
        case rel => exact ⟨i + 1, by omega, by go_num, hm2, hx.trans hx1⟩
        case measure => simp [intOf]; omega
    · obtain rfl : i = n := by omega
      have HR := Lib.hid (show ageI r ck = -1 by unfold ageI; rw [ageI_no (by have := hm.out; rwa [List.take_of_length_le (by omega)] at this)])
      go_wp2_with fail
      go_ret
      exact ⟨by rw [HR.out]; rfl, hx⟩

def OpenP (o : Opened) (w : World) (e : Ending) (w' : World) : Prop := ∃ a n c b m d, e = .returned (.tuple #[.int .i64 o.algo, .agg #[.slice a n c, .slice b m d], .int .i64 o.age, .int .i64 o.err]) ∧ Sl w' a n o.up ∧ n ≤ c ∧ Sl w' b m o.down ∧ m ≤ d ∧ Ext w w'
theorem OpenP.err (w w' : World) (e : Int) (hx : Ext w w') : OpenP ⟨0, [], [], 0, e⟩ w (.returned (.tuple #[.int .i64 0, .agg #[.slice none 0 0, .slice none 0 0], .int .i64 0, .int .i64 e])) w' :=
  ⟨none, 0, 0, none, 0, 0, rfl, Sl.nil _ _, Nat.le_refl _, Sl.nil _ _, Nat.le_refl _, hx⟩
set_option maxRecDepth 100000 in
set_option maxHeartbeats 8000000 in
theorem copen_any (a b : Option Addr) (n c nk ck : Nat) (r : Ring) (l : List UInt8) (w : World) (hI : Ib w a n r) (hnc : n ≤ c) (hn : n ≤ 1000000) (hb : Sl w b nk l) (hck : nk ≤ ck) :
    Calls Tryz.prog 10 #[.agg #[.slice a n c], .slice b nk ck] w (OpenP (openR r l) w) := by
  have hval := fun W h => ckvalid_any a n c r W h hnc hn
  have hrl := hI.len
  have hll := hb.len
  cases hV : validR r
  · have e : openR r l = ⟨0, [], [], 0, 3⟩ := by unfold openR; rw [if_pos (.inl hV)]
    rw [e]
    rw [hV] at hval
    clear hll e
    go_enter Tryz.func10, Tryz.ntmps10
    go_wp2_with (first
      | (go_at_call 22; refine (hval _ (hI.ext (by repeat (first | (with_reducible first | exact Ext.refl _ | assumption | apply Ext.alloc | apply Ext.ext | apply Ext.drew | refine Ext.setCell ?_ ?_ _) | (focus (simp [go_sem]; done)))))).mono ?_; rintro e w1 ⟨rfl, hxq⟩; obtain ⟨xq, rfl⟩ := hxq.out; clear hxq)
      | fail)
    refine bodyPost_ret (v := .tuple #[.int .i64 0, .agg #[.slice none 0 0, .slice none 0 0], .int .i64 0, .int .i64 3]) (by simp [results, Tryz.results10, go_sem]) rfl ?_
    exact OpenP.err _ _ _ (by repeat (first | (with_reducible first | exact Ext.refl _ | assumption | apply Ext.alloc | apply Ext.ext | apply Ext.drew | refine Ext.setCell ?_ ?_ _) | (focus (simp [go_sem]; done))))
  · rw [hV] at hval
    by_cases n104 : nk = 104
    · subst n104
      obtain ⟨v1, v2, v3, v4⟩ := validR_iff.1 hV
      have hcut := fun W H => ccut_any b ck l W H hck
      have hix := fun gB a1 c1 W H1 H2 H3 H4 => ckindex_any a n c r gB a1 c1 l W H1 hn (fun m hm => ⟨(v1 m hm).1, (v1 m hm).2.1⟩) H2 H3 H4
      cases hA : ageOf r l with
      | none =>
        have e : openR r l = ⟨0, [], [], 0, 5⟩ := by unfold openR; rw [if_neg (by rw [hV]; simp; omega), hA]
        rw [e]
        rw [show ageI r l = -1 by unfold ageI; rw [hA]] at hix
        clear hll e hA
        go_enter Tryz.func10, Tryz.ntmps10
        go_wp2_with (first
          | (go_at_call 22; refine (hval _ (hI.ext (by repeat (first | (with_reducible first | exact Ext.refl _ | assumption | apply Ext.alloc | apply Ext.ext | apply Ext.drew | refine Ext.setCell ?_ ?_ _) | (focus (simp [go_sem]; done)))))).mono ?_; rintro e w1 ⟨rfl, hxq⟩; obtain ⟨xq, rfl⟩ := hxq.out; clear hxq)
          | fail)
        have hx0 : Ext w (((w.alloc (.cells #[.slice a n c] 24)).alloc (.cells #[.slice none 0 0, .slice none 0 0] 32)).ext xq) := (by repeat (first | (with_reducible first | exact Ext.refl _ | assumption | apply Ext.alloc | apply Ext.ext | apply Ext.drew | refine Ext.setCell ?_ ?_ _) | (focus (simp [go_sem]; done))))
        have hB1 : Blk (((w.alloc (.cells #[.slice a n c] 24)).alloc (.cells #[.slice none 0 0, .slice none 0 0] 32)).ext xq) w.heap.size 24 [.slice a n c] := (by repeat (first | assumption | (refine Blk.newAt _ _ _ _ ?_; first | rfl | (simp only [World.size_alloc]; done)) | apply Blk.ext | apply Blk.alloc | (refine Blk.other ?_ ?_ _; rotate_left; (simp <;> omega))))
        have hB2 : Blk (((w.alloc (.cells #[.slice a n c] 24)).alloc (.cells #[.slice none 0 0, .slice none 0 0] 32)).ext xq) (w.heap.size + 1) 32 [.slice none 0 0, .slice none 0 0] := (by repeat (first | assumption | (refine Blk.newAt _ _ _ _ ?_; first | rfl | (simp only [World.size_alloc]; done)) | apply Blk.ext | apply Blk.alloc | (refine Blk.other ?_ ?_ _; rotate_left; (simp <;> omega))))
        (with_reducible refine (hcut _ (hb.ext hx0)).mono ?_)
        rintro e w1 ⟨a1, c1, a2, c2, a3, c3, rfl, s1, k1, s2, k2, s3, k3, hx1⟩
        have hE1 := hx0.trans hx1
        have hB1 := hB1.extB hx1
        have hB2 := hB2.extB hx1
        have hlt2 := hB2.lt
        clear hx1 hx0
        haveI := hB1.blt
        haveI := hB2.blt
        have f0 := hB1.cell? 0 rfl
        go_wp2_with fail
        have hx2 : Ext w1 (w1.alloc (.cells #[.slice a1 4 c1] 27)) := Ext.of_alloc _ _
        (with_reducible refine (hix _ _ _ _ (hI.ext (hE1.trans hx2)) (Blk.new w1 #[.slice a1 4 c1] 27) (s1.ext hx2) k1).mono ?_)
        rintro e w2 ⟨rfl, hx3⟩
        have hB3 : Blk w2 w1.heap.size 27 [.slice a1 4 c1] := (Blk.new w1 #[.slice a1 4 c1] 27).extB hx3
        have hx23 := hx2.trans hx3
        have hE2 := hE1.trans hx23
        have hB1 := hB1.extB hx23
        have hB2 := hB2.extB hx23
        have s1 := s1.ext hx23
        have s2 := s2.ext hx23
        have s3 := s3.ext hx23
        clear hx23 hx2 hx3 hE1 f0
        haveI := hB1.blt
        haveI := hB2.blt
        haveI := hB3.blt
        have f0 := hB1.cell? 0 rfl
        have f3 := hB3.cell? 0 rfl
        go_wp2_with (first
          | (refine wpList_store_arr (RP2) rfl _ _ rfl (w.heap.size + 1) (0) rfl ([.slice none 0 0, .slice none 0 0]) rfl (32) _ (hB2) (rfl) (by simp) (by first | exact one_u8 _ | (simp; done) | (simp; (repeat' (first | rfl | constructor)))) ?_; intro w9 hB9 hM9)
          | fail)
        refine bodyPost_ret (results_tctt Tryz.results10 RP2 _ _ (w.heap.size + 1) 0 [.slice none 0 0, .slice none 0 0] rfl hB9.rd rfl _ _ _ rfl rfl rfl) rfl ?_
        exact OpenP.err _ _ _ (endM hE2 (Ext.refl _) hM9 (by omega))
      | some i =>
        obtain ⟨hin, hid⟩ := age_some hA
        obtain ⟨x, hx⟩ : ∃ x, r[i]? = some x := ⟨_, List.getElem?_eq_getElem hin⟩
        obtain ⟨x1, x2, x3⟩ := v1 x (List.mem_of_getElem? hx)
        obtain ⟨id, ky⟩ := x
        simp only at x1 x2 x3
        have hinn : innerE r i l = openE ky [l.take 4, (l.drop 4).take 16] (l.drop 20) := by unfold innerE; rw [List.getD_eq_getElem?_getD, hx]; rfl
        rw [show ageI r l = (i : Int) by unfold ageI; rw [hA]] at hix
        obtain ⟨b', off', gk, cgk, rfl, hbk, d0, d1, hSk, hckk⟩ := hI.at i (by omega) _ hx
        simp only at d0 d1 hSk hckk
        rw [x3] at d1 hSk hckk
        have hope := fun bA cA aS cS W h1 h2 h3 h4 => open_any gk bA aS 32 cgk 2 cA 84 cS ky [l.take 4, (l.drop 4).take 16] (l.drop 20) W h1 hckk h2 (by omega) h3 h4
        have hlen := openE_len (ky := ky) (A := [l.take 4, (l.drop 4).take 16]) (s := l.drop 20)
        rw [← hinn] at hope hlen
        have hd84 : (l.drop 20).length = 84 := by rw [List.length_drop]; omega
        rw [hd84] at hlen
        obtain ⟨⟨pl, er⟩, hpe⟩ : ∃ q, innerE r i l = q := ⟨_, rfl⟩
        rw [hpe] at hope hlen
        simp only at hope hlen
        have hres : openR r l = if er ≠ 0 ∨ (pl.drop 2).take 2 ≠ [0, 0] then ⟨0, [], [], 0, 6⟩ else ⟨n64 (getL (pl.take 2)), (pl.drop 4).take 32, (pl.drop 36).take 32, i, 0⟩ := by
          unfold openR; rw [if_neg (by rw [hV]; simp; omega), hA]; simp only; rw [hpe]
        have HR := Lib.hid hres
        have i0 : (0 : Int) ≤ (i : Int) := by omega
        have i1 : (i : Int) < (n : Int) := by omega
        have i2 : ¬ (i : Int) < 0 := by omega
        haveI := hbk
        clear hres hpe hinn hA hll
        go_enter Tryz.func10, Tryz.ntmps10
        go_wp2_with (first
          | (go_at_call 22; refine (hval _ (hI.ext (by repeat (first | (with_reducible first | exact Ext.refl _ | assumption | apply Ext.alloc | apply Ext.ext | apply Ext.drew | refine Ext.setCell ?_ ?_ _) | (focus (simp [go_sem]; done)))))).mono ?_; rintro e w1 ⟨rfl, hxq⟩; obtain ⟨xq, rfl⟩ := hxq.out; clear hxq)
          | fail)
        have hx0 : Ext w (((w.alloc (.cells #[.slice (some ⟨b', off', none⟩) n c] 24)).alloc (.cells #[.slice none 0 0, .slice none 0 0] 32)).ext xq) := (by repeat (first | (with_reducible first | exact Ext.refl _ | assumption | apply Ext.alloc | apply Ext.ext | apply Ext.drew | refine Ext.setCell ?_ ?_ _) | (focus (simp [go_sem]; done))))
        have hB1 : Blk (((w.alloc (.cells #[.slice (some ⟨b', off', none⟩) n c] 24)).alloc (.cells #[.slice none 0 0, .slice none 0 0] 32)).ext xq) w.heap.size 24 [.slice (some ⟨b', off', none⟩) n c] := (by repeat (first | assumption | (refine Blk.newAt _ _ _ _ ?_; first | rfl | (simp only [World.size_alloc]; done)) | apply Blk.ext | apply Blk.alloc | (refine Blk.other ?_ ?_ _; rotate_left; (simp <;> omega))))
        have hB2 : Blk (((w.alloc (.cells #[.slice (some ⟨b', off', none⟩) n c] 24)).alloc (.cells #[.slice none 0 0, .slice none 0 0] 32)).ext xq) (w.heap.size + 1) 32 [.slice none 0 0, .slice none 0 0] := (by repeat (first | assumption | (refine Blk.newAt _ _ _ _ ?_; first | rfl | (simp only [World.size_alloc]; done)) | apply Blk.ext | apply Blk.alloc | (refine Blk.other ?_ ?_ _; rotate_left; (simp <;> omega))))
        (with_reducible refine (hcut _ (hb.ext hx0)).mono ?_)
        rintro e w1 ⟨a1, c1, a2, c2, a3, c3, rfl, s1, k1, s2, k2, s3, k3, hx1⟩
        have hE1 := hx0.trans hx1
        have hB1 := hB1.extB hx1
        have hB2 := hB2.extB hx1
        have hlt2 := hB2.lt
        clear hx1 hx0
        haveI := hB1.blt
        haveI := hB2.blt
        have f0 := hB1.cell? 0 rfl
        go_wp2_with fail
        have hx2 : Ext w1 (w1.alloc (.cells #[.slice a1 4 c1] 27)) := Ext.of_alloc _ _
        (with_reducible refine (hix _ _ _ _ (hI.ext (hE1.trans hx2)) (Blk.new w1 #[.slice a1 4 c1] 27) (s1.ext hx2) k1).mono ?_)
        rintro e w2 ⟨rfl, hx3⟩
        have hB3 : Blk w2 w1.heap.size 27 [.slice a1 4 c1] := (Blk.new w1 #[.slice a1 4 c1] 27).extB hx3
        have hx23 := hx2.trans hx3
        have hE2 := hE1.trans hx23
        have hB1 := hB1.extB hx23
        have hB2 := hB2.extB hx23
        have s1 := s1.ext hx23
        have s2 := s2.ext hx23
        have s3 := s3.ext hx23
        clear hx23 hx2 hx3 hE1 f0
        haveI := hB1.blt
        haveI := hB2.blt
        haveI := hB3.blt
        have f0 := hB1.cell? 0 rfl
        have f3 := hB3.cell? 0 rfl
        go_wp2_with fail
        haveI : BlkLt b' w2 := ⟨Nat.lt_of_lt_of_le hbk.lt hE2.size⟩
        have d1 : w2.cell? ⟨b', off' + i * 2 + 1, none⟩ = some (.slice gk 32 cgk) := (hE2.cell (p := ⟨b', _, none⟩) hbk.lt).trans d1
        have hSkW := hSk.ext hE2
        refine wp_region_vague 16 [[], [0], [], [0, 1, 2], [0, 1, 2, 3], [0, 1, 2, 3, 4], [], [], [6, 7], [], [0, 1, 2, 3, 4, 5, 6, 7, 8, 9], [0, 1, 2, 3, 4, 5, 6, 7, 8, 9, 10], [0, 1, 2, 3, 4, 5, 6, 7, 8, 9, 10, 11], [0, 1, 2, 3, 4, 5, 6, 7, 8, 9, 10, 11], [0, 1, 2, 3, 4, 5, 6, 7, 8, 9, 10, 11, 12], [0, 1, 2, 3, 4, 5, 6, 7, 8, 9, 10, 11, 12, 13, 14]] (by kernel_rfl) (by kernel_rfl) (by kernel_rfl) (by kernel_rfl) ?_; simp only [List.take_succ_cons, List.take_zero, List.drop_succ_cons, List.drop_zero, List.take_nil, List.drop_nil]
        (repeat (apply VD_der; (case h => (intro us w' hx hf; obtain ⟨x, rfl⟩ := hx.out; refine ⟨rfl, ?_⟩; simp [go_sem, execOp, *]; (try simp (disch := omega) only [Go.IntWalk.i64_in, Go.IntWalk.rem_in, Go.IntWalk.wrap64_in]); rfl)); (try simp only [Act.put, List.setIfInBounds_toArray, List.set_cons_succ, List.set_cons_zero])))
        (refine VD_vag (fun p => .slice (p 0).1 2 2) (fun p w'' => Bsc w'' (p 0).1 2 [l.take 4, (l.drop 4).take 16]) (fun p w w' h hx => by first | exact h.ext hx | exact ⟨h.1.ext hx, h.2.ext hx⟩ | exact ⟨h.1.ext hx, h.2⟩ | exact ⟨h.1.ext hx, h.2.1.ext hx, h.2.2.ext hx⟩) (fun us w' hx hf => ⟨rfl, ?_⟩) ?_; (unfold gives; simp [go_sem, execOp]; exact ⟨fun _ => (some ⟨w'.heap.size, 0, none⟩, 0), rfl, Ext.of_alloc _ _, bsc2 (s1.ext hx) k1 (s2.ext hx) k2 _⟩))
        (repeat (apply VD_der; (case h => (intro us w' hx hf; obtain ⟨x, rfl⟩ := hx.out; refine ⟨rfl, ?_⟩; simp [go_sem, execOp, *]; (try simp (disch := omega) only [Go.IntWalk.i64_in, Go.IntWalk.rem_in, Go.IntWalk.wrap64_in]); rfl)); (try simp only [Act.put, List.setIfInBounds_toArray, List.set_cons_succ, List.set_cons_zero])))
        (refine VD_vag (fun p => .tuple #[.slice (p 0).1 (pl.length) (p 0).2, .int .i64 er]) (fun p w'' => Sl w'' (p 0).1 (pl.length) (pl) ∧ (pl.length) ≤ (p 0).2) (fun p w w' h hx => ⟨h.1.ext hx, h.2⟩) (fun us w' hx hf => ⟨rfl, ?_⟩) ?_; (unfold gives; simp [go_sem, execOp]; exact vag_read (hope _ _ _ _ _ (hSkW.ext hx) (hf _ (List.mem_append_right _ (List.mem_singleton_self _)) rfl) (s3.ext hx) k3)))
        (repeat (apply VD_der; (case h => (intro us w' hx hf; obtain ⟨x, rfl⟩ := hx.out; refine ⟨rfl, ?_⟩; simp [go_sem, execOp, *]; (try simp (disch := omega) only [Go.IntWalk.i64_in, Go.IntWalk.rem_in, Go.IntWalk.wrap64_in]); rfl)); (try simp only [Act.put, List.setIfInBounds_toArray, List.set_cons_succ, List.set_cons_zero])))
        (refine VD_nil ?_; intro us w' hx hf; obtain ⟨x, rfl⟩ := hx.out; (try simp only [Act.put, List.setIfInBounds_toArray, List.set_cons_succ, List.set_cons_zero, wpList_none]); (try simp only [List.mem_cons, List.not_mem_nil, or_false, forall_eq_or_imp, forall_eq, List.nil_append, List.cons_append, List.mem_append, false_or, true_and, and_true] at hf); (try simp only [Nat.reduceAdd, Nat.zero_add] at hf); (try simp only [Nat.reduceAdd, Nat.zero_add]))
        obtain ⟨_, hSp, hcp⟩ := hf
        obtain ⟨ap, hap⟩ : ∃ a, (us 10 0).1 = a := ⟨_, rfl⟩
        obtain ⟨cp, hcpe⟩ : ∃ a, (us 10 0).2 = a := ⟨_, rfl⟩
        rw [hap] at hSp ⊢
        rw [hcpe] at hcp ⊢
        clear hap hcpe
        obtain ⟨W, hW⟩ : ∃ W, W = w2.ext x := ⟨_, rfl⟩
        rw [← hW] at hSp ⊢
        have hxW : Ext w2 W := by rw [hW]; exact Ext.of_ext _ _
        clear hW
        have hE := hE2.trans hxW
        have hB2 := hB2.extB hxW
        clear hB1 hB3 s1 s2 s3 d1 hSkW f0 f3 hope hix hcut hval
        haveI := hB2.blt
        by_cases her : er = 0
        · subst her
          have hpl : pl.length = 68 := by rw [hlen rfl]
          rw [hpl] at hSp hcp ⊢
          obtain ⟨pb, po, rfl, hpb, _⟩ := hSp.at 0 (by omega)
          have hS2 := sl_from hSp hcp (show 2 < 68 by omega)
          have hS24 := hS2.take 2 (by omega)
          have l24 : ((pl.drop 2).take 2).length = 2 := by rw [List.length_take, List.length_drop]; omega
          have hg24 := fun W H => oget_any (some ⟨pb, po + 2, none⟩) 2 (cp - 2) ((pl.drop 2).take 2) W H (by omega) (by omega)
          have j1 : (2 : Int) ≤ (cp : Int) := by omega
          have j2 : (4 : Int) ≤ (cp : Int) := by omega
          have j3 : 4 ≤ cp := by omega
          have j4 : 2 ≤ cp := by omega
          by_cases hz : (pl.drop 2).take 2 = [0, 0]
          · have hz0 := (get2_zero _ l24).2 hz
            rw [hz0] at hg24
            have HR2 := Lib.hid (show openR r l = ⟨n64 (getL (pl.take 2)), (pl.drop 4).take 32, (pl.drop 36).take 32, i, 0⟩ by rw [HR.out, if_neg (by simp [hz])])
            clear hz hz0 HR l24
            go_wp2_with (first
              | (go_at_call 26; (with_reducible refine (hg24 ?_ ?hq151).mono ?_); (case hq151 => (repeat' (first | with_reducible assumption | (with_reducible exact zeros16 _) | (with_reducible exact sl_new1 _ _ _) | (with_reducible first | apply Sl.upE | apply Sl.upA | apply Sl.upD)))); rintro e w1 ⟨rfl, hxq⟩; obtain ⟨xq, rfl⟩ := hxq.out; clear hxq)
              | fail)
            have hS4 := sl_from hSp hcp (show 4 < 68 by omega)
            have hE4 : Ext W (W.ext xq) := Ext.of_ext _ _
            have hct : ∀ V, Sl V (some ⟨pb, po + 4, none⟩) 64 (pl.drop 4) → Calls Tryz.prog 28 #[.slice (some ⟨pb, po + 4, none⟩) 64 (cp - 4), .int .i64 32] V (CutPost V 32 32 ((pl.drop 4).take 32) ((pl.drop 4).drop 32)) := fun V H => cut_ok (some ⟨pb, po + 4, none⟩) 64 (cp - 4) (pl.drop 4) 32 V H (by omega) (by omega) (by omega)
            (with_reducible refine (hct _ (hS4.ext hE4)).mono ?_)
            rintro e w3 ⟨q1, d1, q2, d2, rfl, hO1, hO2, hx3⟩
            rw [List.drop_drop] at hO2
            simp only [Nat.reduceAdd] at hO2
            have hx3 := hE4.trans hx3
            have hB2 := hB2.extB hx3
            have hE3 := hE.trans hx3
            have hp1 := hO1.sl
            have hp2 : Sl w3 q2 32 ((pl.drop 36).take 32) := by rw [List.take_of_length_le (by rw [List.length_drop]; omega)]; exact hO2.sl
            have hq1 := hO1.le.1
            have hq2 := hO2.le.1
            have hS02 := (hSp.take 2 (by omega)).ext hx3
            clear hO1 hO2 hE4 hct
            haveI := hB2.blt
            have c0 := hB2.cell? 0 rfl
            have c1 : w3.cell? ⟨w.heap.size + 1, 1, none⟩ = some (.slice none 0 0) := hB2.cell? 1 rfl
            have z0 := hB2.free 0
            have z1 := hB2.free 1
            go_wp2_with fail
            have hBs := (hB2.set 0 (.slice q1 32 d1)).set 1 (.slice q2 32 d2)
            have hM4 : Mut (w.heap.size + 1) w3 ((w3.setCell ⟨w.heap.size + 1, 0, none⟩ (.slice q1 32 d1)).setCell ⟨w.heap.size + 1, 1, none⟩ (.slice q2 32 d2)) := ((Mut.refl _ _).setCell 0 _).setCell 1 _
            refine nameW ?_
            intro W4 hW4
            rw [← hW4] at hBs hM4
            clear hW4
            have hBs : Blk W4 (w.heap.size + 1) 32 [.slice q1 32 d1, .slice q2 32 d2] := hBs
            have hE4 : Ext w W4 := Below.trans hE3 (hM4.below (by omega) hE3.size)
            have hp1 := Sl.mut hp1 hB2 (by simp) hM4
            have hp2 := Sl.mut hp2 hB2 (by simp) hM4
            have hS02 := Sl.mut hS02 hB2 (by simp) hM4
            clear hM4 hB2 z0 z1 c0 c1 hS24 hS2 hS4 hg24
            obtain ⟨gq, hgq⟩ : ∃ q, getL (pl.take 2) = q := ⟨_, rfl⟩
            have hb02 := getL_lt4 (pl.take 2) (by rw [List.length_take]; omega)
            have hg02 := fun V H => oget_any (some ⟨pb, po, none⟩) 2 cp (pl.take 2) V H (by omega) (by omega)
            rw [hgq] at hb02 hg02
            have hwr : IntKind.i64.wrap (n64 gq) = n64 gq := by rw [IntKind.wrap_i64]; omega
            haveI := hBs.blt
            have hSE : ∀ w', Ext (W4) w' → (fun w' => Blk w' (w.heap.size + 1) 32 [.slice q1 32 d1, .slice q2 32 d2]) w' := (fun w' h => hBs.extB h); have hExt0 : Ext (W4) (W4).drew := Ext.drew (Ext.refl _); refine wp_region_held_drew (S := fun w' => Blk w' (w.heap.size + 1) 32 [.slice q1 32 d1, .slice q2 32 d2]) (by kernel_rfl) (hSE _ hExt0) (fun hHeld => ?_)
            refine wpAnyH_take (i := 0) (v := ?v142) rfl (by kernel_rfl) (by kernel_rfl) (by kernel_rfl) (fun _ _ _ h => h) (Or.inl ⟨by rfl, ?hy142⟩) hHeld ?_; (case hy142 => (intro w' hx; simp [go_sem, execOp, *]; (try simp (disch := omega) only [Go.IntWalk.i64_in, Go.IntWalk.rem_in, Go.IntWalk.wrap64_in]); rfl)); (try simp only [List.getElem_toArray, List.getElem_cons_succ, List.getElem_cons_zero, Act.put, List.setIfInBounds_toArray, List.set_cons_succ, List.set_cons_zero])
            refine wpAnyH_take (i := 1) (v := ?v143) rfl (by kernel_rfl) (by kernel_rfl) (by kernel_rfl) (fun _ _ _ h => h) (Or.inl ⟨by rfl, ?hy143⟩) hHeld ?_; (case hy143 => (intro w' hx; simp [go_sem, execOp, *]; (try simp (disch := omega) only [Go.IntWalk.i64_in, Go.IntWalk.rem_in, Go.IntWalk.wrap64_in]); rfl)); (try simp only [List.getElem_toArray, List.getElem_cons_succ, List.getElem_cons_zero, Act.put, List.setIfInBounds_toArray, List.set_cons_succ, List.set_cons_zero])
            refine wpAnyH_take (i := 4) rfl (by kernel_rfl) (by kernel_rfl) (by kernel_rfl) (fun _ _ _ h => h) (R5.take_load (RP2) _ rfl rfl (w.heap.size + 1) (0) rfl ([.slice q1 32 d1, .slice q2 32 d2]) ((fun w' h => h.rd)) (rfl)) hHeld ?_; (try simp only [List.getElem_toArray, List.getElem_cons_succ, List.getElem_cons_zero, Act.put, List.setIfInBounds_toArray, List.set_cons_succ, List.set_cons_zero])
            refine wpAnyH_take (i := 5) (v := ?v145) rfl (by kernel_rfl) (by kernel_rfl) (by kernel_rfl) (fun _ _ _ h => h) (Or.inl ⟨by rfl, ?hy145⟩) hHeld ?_; (case hy145 => (intro w' hx; simp [go_sem, execOp, *]; (try simp (disch := omega) only [Go.IntWalk.i64_in, Go.IntWalk.rem_in, Go.IntWalk.wrap64_in]); rfl)); (try simp only [List.getElem_toArray, List.getElem_cons_succ, List.getElem_cons_zero, Act.put, List.setIfInBounds_toArray, List.set_cons_succ, List.set_cons_zero])
            (refine R5.any_only 2 (by kernel_rfl) rfl rfl ?_; unfold gives; simp [go_sem, execOp])
            (with_reducible refine (hg02 _ (hS02.ext hExt0)).mono ?_)
            rintro e w5 ⟨rfl, hx5⟩
            have hx5 := hExt0.trans hx5
            refine ⟨_, rfl, hSE _ hx5, ?_⟩
            (try simp only [List.getElem_toArray, List.getElem_cons_succ, List.getElem_cons_zero, Act.put, List.setIfInBounds_toArray, List.set_cons_succ, List.set_cons_zero])
            (refine R5.any_only 3 (by kernel_rfl) rfl rfl ?_; unfold gives; simp [go_sem, execOp])
            refine ⟨hSE _ hx5, ?_⟩
            (try simp only [List.getElem_toArray, List.getElem_cons_succ, List.getElem_cons_zero, Act.put, List.setIfInBounds_toArray, List.set_cons_succ, List.set_cons_zero])
            (refine R5.any_only 6 (by kernel_rfl) rfl rfl ?_; unfold gives; simp [go_sem, execOp])
            refine ⟨hSE _ hx5, ?_⟩
            (try simp only [List.getElem_toArray, List.getElem_cons_succ, List.getElem_cons_zero, Act.put, List.setIfInBounds_toArray, List.set_cons_succ, List.set_cons_zero])
            refine R5.only_store RP2 7 (by kernel_rfl) rfl rfl _ _ rfl (w.heap.size + 1) 0 rfl [.slice q1 32 d1, .slice q2 32 d2] rfl 32 _ (hSE _ hx5) rfl (by simp) (by simp; repeat' (first | rfl | constructor)) ?_
            intro w6 hB6 hM6
            have hS6 : Blk w6 (w.heap.size + 1) 32 [.slice q1 32 d1, .slice q2 32 d2] := hB6
            refine ⟨hS6, ?_⟩
            (try simp only [List.getElem_toArray, List.getElem_cons_succ, List.getElem_cons_zero, Act.put, List.setIfInBounds_toArray, List.set_cons_succ, List.set_cons_zero])
            (refine R5.any_only 8 (by kernel_rfl) rfl rfl ?_; unfold gives; simp [go_sem, execOp])
            refine ⟨hS6, ?_⟩
            (try simp only [List.getElem_toArray, List.getElem_cons_succ, List.getElem_cons_zero, Act.put, List.setIfInBounds_toArray, List.set_cons_succ, List.set_cons_zero])
            (refine R5.any_only 9 (by kernel_rfl) rfl rfl ?_; unfold gives; simp [go_sem, execOp])
            refine ⟨hS6, ?_⟩
            (try simp only [List.getElem_toArray, List.getElem_cons_succ, List.getElem_cons_zero, Act.put, List.setIfInBounds_toArray, List.set_cons_succ, List.set_cons_zero])
            refine wpAnyH_done (by kernel_rfl) ?_ _
            go_wp2
            refine bodyPost_ret (results_tctt Tryz.results10 RP2 _ _ (w.heap.size + 1) 0 [.slice q1 32 d1, .slice q2 32 d2] rfl hS6.rd rfl _ _ _ rfl rfl rfl) rfl ?_
            rw [HR2.out, hgq]
            have hE5 := hE4.trans hx5
            have hBk := hSE _ hx5
            exact ⟨_, _, _, _, _, _, (by first | rfl | (rw [hwr]; rfl) | (simp only [hwr]; rfl)), Sl.mut (hp1.ext hx5) hBk (by simp) hM6, hq1, Sl.mut (hp2.ext hx5) hBk (by simp) hM6, hq2, Below.trans hE5 (hM6.below (by omega) hE5.size)⟩
          · have hz0 : (n64 (getL ((pl.drop 2).take 2)) != 0) = true := by rw [bne_iff_ne]; exact fun h => hz ((get2_zero _ l24).1 h)
            generalize n64 (getL ((pl.drop 2).take 2)) = q at *
            go_wp2_with (first
              | (go_at_call 26; (with_reducible refine (hg24 ?_ ?hq152).mono ?_); (case hq152 => (repeat' (first | with_reducible assumption | (with_reducible exact zeros16 _) | (with_reducible exact sl_new1 _ _ _) | (with_reducible first | apply Sl.upE | apply Sl.upA | apply Sl.upD)))); rintro e w1 ⟨rfl, hxq⟩; obtain ⟨xq, rfl⟩ := hxq.out; clear hxq)
              | (refine wpList_store_arr (RP2) rfl _ _ rfl (w.heap.size + 1) (0) rfl ([.slice none 0 0, .slice none 0 0]) rfl (32) _ ((hB2.extB (by repeat (first | (with_reducible first | exact Ext.refl _ | assumption | apply Ext.alloc | apply Ext.ext | apply Ext.drew | refine Ext.setCell ?_ ?_ _) | (focus (simp [go_sem]; done)))))) (rfl) (by simp) (by first | exact one_u8 _ | (simp; done) | (simp; (repeat' (first | rfl | constructor)))) ?_; intro w9 hB9 hM9)
              | fail)
            refine bodyPost_ret (results_tctt Tryz.results10 RP2 _ _ (w.heap.size + 1) 0 [.slice none 0 0, .slice none 0 0] rfl hB9.rd rfl _ _ _ rfl rfl rfl) rfl ?_
            rw [HR.out, if_pos (.inr hz)]
            exact OpenP.err _ _ _ (endM hE (by repeat (first | (with_reducible first | exact Ext.refl _ | assumption | apply Ext.alloc | apply Ext.ext | apply Ext.drew | refine Ext.setCell ?_ ?_ _) | (focus (simp [go_sem]; done)))) hM9 (by omega))
        · have her' := ne0 her
          go_wp2_with (first
            | (refine wpList_store_arr (RP2) rfl _ _ rfl (w.heap.size + 1) (0) rfl ([.slice none 0 0, .slice none 0 0]) rfl (32) _ ((hB2.extB (by repeat (first | (with_reducible first | exact Ext.refl _ | assumption | apply Ext.alloc | apply Ext.ext | apply Ext.drew | refine Ext.setCell ?_ ?_ _) | (focus (simp [go_sem]; done)))))) (rfl) (by simp) (by first | exact one_u8 _ | (simp; done) | (simp; (repeat' (first | rfl | constructor)))) ?_; intro w9 hB9 hM9)
            | fail)
          refine bodyPost_ret (results_tctt Tryz.results10 RP2 _ _ (w.heap.size + 1) 0 [.slice none 0 0, .slice none 0 0] rfl hB9.rd rfl _ _ _ rfl rfl rfl) rfl ?_
          rw [HR.out, if_pos (.inl her)]
          exact OpenP.err _ _ _ (endM hE (by repeat (first | (with_reducible first | exact Ext.refl _ | assumption | apply Ext.alloc | apply Ext.ext | apply Ext.drew | refine Ext.setCell ?_ ?_ _) | (focus (simp [go_sem]; done)))) hM9 (by omega))
    · have e : openR r l = ⟨0, [], [], 0, 3⟩ := by unfold openR; rw [if_pos (.inr (by omega))]
      rw [e]
      have hI1 : (((nk : Nat) : Int) != 104) = true := by rw [bne_iff_ne]; omega
      clear hll e n104
      go_enter Tryz.func10, Tryz.ntmps10
      go_wp2_with (first
        | (go_at_call 22; refine (hval _ (hI.ext (by repeat (first | (with_reducible first | exact Ext.refl _ | assumption | apply Ext.alloc | apply Ext.ext | apply Ext.drew | refine Ext.setCell ?_ ?_ _) | (focus (simp [go_sem]; done)))))).mono ?_; rintro e w1 ⟨rfl, hxq⟩; obtain ⟨xq, rfl⟩ := hxq.out; clear hxq)
        | fail)
      refine bodyPost_ret (v := .tuple #[.int .i64 0, .agg #[.slice none 0 0, .slice none 0 0], .int .i64 0, .int .i64 3]) (by simp [results, Tryz.results10, go_sem]) rfl ?_
      exact OpenP.err _ _ _ (by repeat (first | (with_reducible first | exact Ext.refl _ | assumption | apply Ext.alloc | apply Ext.ext | apply Ext.drew | refine Ext.setCell ?_ ?_ _) | (focus (simp [go_sem]; done))))
end Go.Proofs.YtbfgeokngekdmaaGreat
