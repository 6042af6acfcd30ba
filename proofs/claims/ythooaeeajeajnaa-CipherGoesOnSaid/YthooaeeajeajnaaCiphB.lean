import Derived.Test.YthooaeeajeajnaaCiph
namespace Go.Proofs.Ythooaeeajeajnaa
open Go.RowKit Go.Sec Go.Oct Go.Aes BigFrame
set_option maxRecDepth 100000 in
set_option maxHeartbeats 2000000 in
theorem rsub_any (x : UInt8) (w : World) :
    Calls Try.prog 23 #[.int .u8 (n8 x)] w fun e w' => e = .returned (.int .u8 (n8 (sub x))) ∧ Ext w w' := by
  go_enter Try.func23, Try.ntmps23
  go_wp2
  go_loopw [3, 4] (fun v3 v4 wr => ∃ k : Nat, k ≤ 254 ∧ v3 = .int .u8 (n8 (pw x k)) ∧ v4 = .int .i64 k ∧ Ext w wr) (fun _ v4 _ => 254 - (intOf v4).toNat)
  case atStart => exact ⟨0, by omega, rfl, rfl, Ext.refl _⟩
  case round =>
    obtain ⟨k, hk, rfl, rfl, hx⟩ := hrel
    by_cases hlt : k < 254
    · have HP := Lib.hid (show pw x (k + 1) = mul (pw x k) x from rfl)
      generalize pw x k = p at *
      go_wp2_with (go_at_call 25; refine (rtimes_any p x _).mono ?_; rintro e w1 ⟨rfl, hxq⟩; obtain ⟨xq, rfl⟩ := hxq.out; clear hxq)
      go_roundw
      case rel => exact ⟨k + 1, by omega, by rw [HP.out], by go_num, hx.trans (Ext.of_ext _ _)⟩
      case measure => simp [intOf]; omega
    · obtain rfl : k = 254 := by omega
      have HE := Lib.hid (show sub x = pw x 254 ^^^ lft (pw x 254) 1 ^^^ lft (pw x 254) 2 ^^^ lft (pw x 254) 3 ^^^ lft (pw x 254) 4 ^^^ 99 from (sub_eq x).symm)
      generalize pw x 254 = p at *
      have l1 : ∀ W, Calls Try.prog 61 #[.int .u8 (n8 p), .int .i64 1] W fun e w' => e = .returned (.int .u8 (n8 (lft p 1))) ∧ Ext W w' := fun W => left_any p 1 (by omega) (by omega) W
      have l2 : ∀ W, Calls Try.prog 61 #[.int .u8 (n8 p), .int .i64 2] W fun e w' => e = .returned (.int .u8 (n8 (lft p 2))) ∧ Ext W w' := fun W => left_any p 2 (by omega) (by omega) W
      have l3 : ∀ W, Calls Try.prog 61 #[.int .u8 (n8 p), .int .i64 3] W fun e w' => e = .returned (.int .u8 (n8 (lft p 3))) ∧ Ext W w' := fun W => left_any p 3 (by omega) (by omega) W
      have l4 : ∀ W, Calls Try.prog 61 #[.int .u8 (n8 p), .int .i64 4] W fun e w' => e = .returned (.int .u8 (n8 (lft p 4))) ∧ Ext W w' := fun W => left_any p 4 (by omega) (by omega) W
      go_wp2_with fail
      refine (l1 _).mono ?_
      rintro e w1 ⟨rfl, hx1⟩
      go_wp2_with fail
      refine (l2 _).mono ?_
      rintro e w2 ⟨rfl, hx2⟩
      go_wp2_with fail
      refine (l3 _).mono ?_
      rintro e w3 ⟨rfl, hx3⟩
      go_wp2_with fail
      refine (l4 _).mono ?_
      rintro e w4 ⟨rfl, hx4⟩
      go_wp2_with fail
      go_returns
      exact ⟨by rw [HE.out]; rfl, hx.trans (hx1.trans (hx2.trans (hx3.trans hx4)))⟩

def k0 : List UInt8 := [0, 1, 2, 3, 4, 5, 6, 7, 8, 9, 10, 11, 12, 13, 14, 15]
def i0 : List UInt8 := [0x00, 0x11, 0x22, 0x33, 0x44, 0x55, 0x66, 0x77, 0x88, 0x99, 0xaa, 0xbb, 0xcc, 0xdd, 0xee, 0xff]
def o0 : List UInt8 := [0x69, 0xc4, 0xe0, 0xd8, 0x6a, 0x7b, 0x04, 0x30, 0xd8, 0xcd, 0xb7, 0x80, 0x70, 0xb4, 0xc5, 0x5a]

set_option maxRecDepth 100000 in
set_option maxHeartbeats 2000000 in
theorem block_any (a b : Option Addr) (ca cb : Nat) (ky l : List UInt8) (w : World) (hk : Sl w a 16 ky) (hl : Sl w b 16 l) (hca : 16 ≤ ca) :
    Calls Try.prog 18 #[.slice a 16 ca, .slice b 16 cb] w fun e w' => ∃ g, e = .returned (.tuple #[.slice (some ⟨g, 0, none⟩) 16 16, .int .i64 0]) ∧ w.heap.size ≤ g ∧ Blk w' g 60 ((block ky l).map u8v) ∧ Ext w w' := by
  have har2 := fun W a len cap => run_arrayAt (P := Try.prog) W 60 5 16 a len cap Try.underlying60
  obtain ⟨b0, o0, rfl, hb0, _⟩ := hl.at 0 (by omega)
  have hE := Lib.hid (show block ky l = enc (expand ky) l from rfl)
  have hlb := hl.by'
  have hll := hl.len
  have hlk := hk.len
  generalize block ky l = out at *
  go_enter Try.func18, Try.ntmps18
  go_wp2_with (first
    | (refine wpList_load_arr (R60) rfl _ rfl (b0) (o0) rfl (l.map u8v) (hlb) ((by simpa using hll)) ?_)
    | (refine wpList_alloc_store (R60) rfl rfl _ _ rfl rfl rfl rfl (by simp [Act.put]) (l.map u8v) rfl (by simp) ((by simpa using hll)) (one_u8 _) ?_; intro x hBx _)
    | fail)
  refine (new_any a ca ky _ (hk.ext (Ext.of_ext _ _)) hca).mono ?_
  rintro e w1 ⟨g1, rfl, hg1, hB1, hx1⟩
  go_wp2_with fail
  have hs1 : w.heap.size < (w.ext x).heap.size := hBx.lt
  have hBy := hBx.extB hx1
  refine (enc_any w.heap.size g1 0 60 l (expand ky) w1 hBy hll (by rw [expand, words_length _ _ hlk]) hB1.rd (by omega)).mono ?_
  rintro e w2 ⟨rfl, hB2, hM2⟩
  go_wp2_with fail
  go_ret2
  rw [← hE.out] at hB2
  exact ⟨_, rfl, Nat.le_refl _, hB2, Below.trans (b := w.ext x) (Ext.of_ext _ _) ((Mut.of_ext hx1).trans hM2 |>.below (Nat.le_refl _) (Ext.of_ext w x).size)⟩

def s1 : List UInt8 := [48, 48, 48, 49, 48, 50, 48, 51, 48, 52, 48, 53, 48, 54, 48, 55, 48, 56, 48, 57, 48, 97, 48, 98, 48, 99, 48, 100, 48, 101, 48, 102]
def s2 : List UInt8 := [48, 48, 49, 49, 50, 50, 51, 51, 52, 52, 53, 53, 54, 54, 55, 55, 56, 56, 57, 57, 97, 97, 98, 98, 99, 99, 100, 100, 101, 101, 102, 102]
def s3 : List UInt8 := [54, 57, 99, 52, 101, 48, 100, 56, 54, 97, 55, 98, 48, 52, 51, 48, 100, 56, 99, 100, 98, 55, 56, 48, 55, 48, 98, 52, 99, 53, 53, 97]
theorem un1 : unhexTo hexV s1 s1.length = k0 := by decide +kernel
theorem un2 : unhexTo hexV s2 s2.length = i0 := by decide +kernel
theorem hex3 : hexL (block k0 i0) = s3 := by decide +kernel
theorem hv1 : ∀ k, (h : k < s1.length) → 0 ≤ Lib.indexByte digits s1[k] := by decide +kernel
theorem hv2 : ∀ k, (h : k < s2.length) → 0 ≤ Lib.indexByte digits s2[k] := by decide +kernel

set_option maxRecDepth 100000 in
set_option maxHeartbeats 2000000 in
theorem known4_any (w : World) : Calls Try.prog 20 #[] w fun e w' => e = .returned (.bool true) ∧ Ext w w' := by
  have u1 : ∀ W, Calls Try.prog 58 #[.string ⟨#[48, 48, 48, 49, 48, 50, 48, 51, 48, 52, 48, 53, 48, 54, 48, 55, 48, 56, 48, 57, 48, 97, 48, 98, 48, 99, 48, 100, 48, 101, 48, 102]⟩] W fun e w' => ∃ a c, e = .returned (.tuple #[.slice a 16 c, .bool true]) ∧ Own w' W.heap.size a 16 c k0 ∧ Ext W w' := fun W => by
    have := unhex_any s1 16 W rfl (by omega) hv1
    rwa [un1] at this
  have u2 : ∀ W, Calls Try.prog 58 #[.string ⟨#[48, 48, 49, 49, 50, 50, 51, 51, 52, 52, 53, 53, 54, 54, 55, 55, 56, 56, 57, 57, 97, 97, 98, 98, 99, 99, 100, 100, 101, 101, 102, 102]⟩] W fun e w' => ∃ a c, e = .returned (.tuple #[.slice a 16 c, .bool true]) ∧ Own w' W.heap.size a 16 c i0 ∧ Ext W w' := fun W => by
    have := unhex_any s2 16 W rfl (by omega) hv2
    rwa [un2] at this
  generalize hkk : k0 = kk at u1
  generalize hii : i0 = ii at u2
  go_enter Try.func20, Try.ntmps20
  go_wp2_with fail
  refine (u1 _).mono ?_
  rintro e w1 ⟨a1, c1, rfl, hO1, hx1⟩
  go_wp2_with fail
  refine (u2 _).mono ?_
  rintro e w2 ⟨a2, c2, rfl, hO2, hx2⟩
  go_wp2_with fail
  refine (block_any a1 a2 c1 c2 kk ii _ (hO1.ext hx2).sl hO2.sl hO1.le.1).mono ?_
  rintro e w3 ⟨g3, rfl, hg3, hB3, hx3⟩
  go_wp2_with fail
  have hh : ∀ W, Sl W (some ⟨g3, 0, none⟩) 16 (block kk ii) → Calls Try.prog 59 #[.slice (some ⟨g3, 0, none⟩) 16 16] W fun e w' => e = .returned (.string ⟨#[54, 57, 99, 52, 101, 48, 100, 56, 54, 97, 55, 98, 48, 52, 51, 48, 100, 56, 99, 100, 98, 55, 56, 48, 55, 48, 98, 52, 99, 53, 53, 97]⟩) ∧ Ext W w' := fun W hS => by
    have := hex_any _ 16 16 _ W hS (by omega)
    rwa [← hkk, ← hii, hex3] at this
  refine (hh _ (hB3.sl (by rw [block, enc, rounds_length]))).mono ?_
  rintro e w4 ⟨rfl, hx4⟩
  clear u1 u2 hh
  go_wp2_with fail
  go_returns
  exact ⟨rfl, hx1.trans (hx2.trans (hx3.trans hx4))⟩

end Go.Proofs.Ythooaeeajeajnaa
