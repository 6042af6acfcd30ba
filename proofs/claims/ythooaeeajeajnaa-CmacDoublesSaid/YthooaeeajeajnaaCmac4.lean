/- The walks of layer 5, part four: Cmac, Subkeys, the sanity check. -/
import Derived.Test.YthooaeeajeajnaaCmac3
import Derived.Test.YthooaeeajeajnaaCiphB
namespace Go.Proofs.Ythooaeeajeajnaa
open Go.RowKit Go.Sec Go.Oct Go.Aes BigFrame

theorem kc_length (g : Nat) (k1 k2 : List UInt8) (h1 : k1.length = 16) (h2 : k2.length = 16) : (kc g k1 k2).length = 33 := by simp [kc, h1, h2]
theorem kc_one (g : Nat) (k1 k2 : List UInt8) : ∀ u ∈ kc g k1 k2, u.oneCell' = true := by
  intro u hu
  rcases List.mem_cons.1 hu with rfl | hu
  · rfl
  · exact one_u8 _ u hu

set_option maxRecDepth 100000 in
set_option maxHeartbeats 4000000 in
theorem cmac_any (a b : Option Addr) (ca n cb : Nat) (ky l : List UInt8) (w : World) (hk : Sl w a 16 ky) (hca : 16 ≤ ca) (hl : Sl w b n l) (hnc : n ≤ cb) (hn : n ≤ 65535) :
    Calls Try.prog 26 #[.slice a 16 ca, .slice b n cb] w (Read2 16 (cmac ky l) (.int .i64 0) w) := by
  have hE := Lib.hid (show cmac ky l = macW (expand ky) (sub1 (expand ky)) (sub2 (expand ky)) l from rfl)
  have hK : (expand ky).length = 176 := words_length ky 40 hk.len
  have h1 : (sub1 (expand ky)).length = 16 := tw_length _
  have h2 : (sub2 (expand ky)).length = 16 := tw_length _
  have hcl : (cmac ky l).length = 16 := macW_length _ _ _ _
  have hr := ready_any a ca ky w hk hca
  generalize sub1 (expand ky) = k1 at *
  generalize sub2 (expand ky) = k2 at *
  generalize expand ky = ks at *
  generalize cmac ky l = out at *
  have hnI : ¬ (65535 : Int) < (n : Int) := by omega
  go_enter Try.func26, Try.ntmps26
  go_wp2_with fail
  refine hr.mono ?_
  rintro e w1 ⟨g, rfl, hg, hB, hx1⟩
  clear hr
  have hkl := kc_length g k1 k2 h1 h2
  go_wp2_with (first
    | (refine wpList_alloc_store (R71) rfl rfl _ _ rfl rfl rfl rfl (by simp [Act.put]) (kc g k1 k2) rfl (by simp) (hkl) (kc_one g k1 k2) ?_; intro x hBk _)
    | (refine wpList_load_arr (R71) rfl _ rfl (w1.heap.size) (0) rfl (kc g k1 k2) (hBk.rd) (hkl) ?_)
    | fail)
  have hx2 : Ext w (w1.ext x) := hx1.ext x
  refine (mac_any g ks k1 k2 l b n cb _ (hB.ext x) hK h1 h2 (hl.ext hx2) hnc (by omega)).mono ?_
  rintro e w2 ⟨rfl, hx3⟩
  rw [← hE.out]
  go_wp2_with (first
    | (refine wpList_alloc_store (R60) rfl rfl _ _ rfl rfl rfl rfl (by simp [Act.put]) (out.map u8v) rfl (by simp) ((by simpa using hcl)) (one_u8 _) ?_; intro xx hBo _)
    | fail)
  go_ret2
  exact ⟨_, _, rfl, hBo.sl hcl, by omega, (hx2.trans hx3).ext _⟩

def s_ck : List UInt8 := [50, 98, 55, 101, 49, 53, 49, 54, 50, 56, 97, 101, 100, 50, 97, 54, 97, 98, 102, 55, 49, 53, 56, 56, 48, 57, 99, 102, 52, 102, 51, 99]
def b_ck : List UInt8 := [43, 126, 21, 22, 40, 174, 210, 166, 171, 247, 21, 136, 9, 207, 79, 60]
theorem un_ck : unhexTo hexV s_ck s_ck.length = b_ck := by decide +kernel
theorem hv_ck : ∀ k, (h : k < s_ck.length) → 0 ≤ Lib.indexByte digits s_ck[k] := by decide +kernel
theorem u_ck (W : World) : Calls Try.prog 58 #[.string ⟨#[50, 98, 55, 101, 49, 53, 49, 54, 50, 56, 97, 101, 100, 50, 97, 54, 97, 98, 102, 55, 49, 53, 56, 56, 48, 57, 99, 102, 52, 102, 51, 99]⟩] W fun e w' => ∃ a c, e = .returned (.tuple #[.slice a 16 c, .bool true]) ∧ Own w' W.heap.size a 16 c b_ck ∧ Ext W w' := by
  have := unhex_any s_ck 16 W rfl (by omega) hv_ck
  rwa [un_ck] at this

def s_cm : List UInt8 := [54, 98, 99, 49, 98, 101, 101, 50, 50, 101, 52, 48, 57, 102, 57, 54, 101, 57, 51, 100, 55, 101, 49, 49, 55, 51, 57, 51, 49, 55, 50, 97]
def b_cm : List UInt8 := [107, 193, 190, 226, 46, 64, 159, 150, 233, 61, 126, 17, 115, 147, 23, 42]
theorem un_cm : unhexTo hexV s_cm s_cm.length = b_cm := by decide +kernel
theorem hv_cm : ∀ k, (h : k < s_cm.length) → 0 ≤ Lib.indexByte digits s_cm[k] := by decide +kernel
theorem u_cm (W : World) : Calls Try.prog 58 #[.string ⟨#[54, 98, 99, 49, 98, 101, 101, 50, 50, 101, 52, 48, 57, 102, 57, 54, 101, 57, 51, 100, 55, 101, 49, 49, 55, 51, 57, 51, 49, 55, 50, 97]⟩] W fun e w' => ∃ a c, e = .returned (.tuple #[.slice a 16 c, .bool true]) ∧ Own w' W.heap.size a 16 c b_cm ∧ Ext W w' := by
  have := unhex_any s_cm 16 W rfl (by omega) hv_cm
  rwa [un_cm] at this

def s_co1 : List UInt8 := [98, 98, 49, 100, 54, 57, 50, 57, 101, 57, 53, 57, 51, 55, 50, 56, 55, 102, 97, 51, 55, 100, 49, 50, 57, 98, 55, 53, 54, 55, 52, 54]
def b_co1 : List UInt8 := [187, 29, 105, 41, 233, 89, 55, 40, 127, 163, 125, 18, 155, 117, 103, 70]
theorem hx_co1 : hexL b_co1 = s_co1 := by decide +kernel
theorem h_co1 (a : Option Addr) (c : Nat) (W : World) (hS : Sl W a 16 b_co1) : Calls Try.prog 59 #[.slice a 16 c] W fun e w' => e = .returned (.string ⟨#[98, 98, 49, 100, 54, 57, 50, 57, 101, 57, 53, 57, 51, 55, 50, 56, 55, 102, 97, 51, 55, 100, 49, 50, 57, 98, 55, 53, 54, 55, 52, 54]⟩) ∧ Ext W w' := by
  have := hex_any a 16 c _ W hS (by omega)
  rwa [hx_co1] at this

def s_co2 : List UInt8 := [48, 55, 48, 97, 49, 54, 98, 52, 54, 98, 52, 100, 52, 49, 52, 52, 102, 55, 57, 98, 100, 100, 57, 100, 100, 48, 52, 97, 50, 56, 55, 99]
def b_co2 : List UInt8 := [7, 10, 22, 180, 107, 77, 65, 68, 247, 155, 221, 157, 208, 74, 40, 124]
theorem hx_co2 : hexL b_co2 = s_co2 := by decide +kernel
theorem h_co2 (a : Option Addr) (c : Nat) (W : World) (hS : Sl W a 16 b_co2) : Calls Try.prog 59 #[.slice a 16 c] W fun e w' => e = .returned (.string ⟨#[48, 55, 48, 97, 49, 54, 98, 52, 54, 98, 52, 100, 52, 49, 52, 52, 102, 55, 57, 98, 100, 100, 57, 100, 100, 48, 52, 97, 50, 56, 55, 99]⟩) ∧ Ext W w' := by
  have := hex_any a 16 c _ W hS (by omega)
  rwa [hx_co2] at this

theorem kc1 : cmac b_ck [] = b_co1 := by decide +kernel
theorem kc2 : cmac b_ck b_cm = b_co2 := by decide +kernel

set_option maxRecDepth 100000 in
set_option maxHeartbeats 2000000 in
theorem known5_any (w : World) : Calls Try.prog 27 #[] w fun e w' => e = .returned (.bool true) ∧ Ext w w' := by
  have u1 := u_ck
  have u2 := u_cm
  have k1 := kc1
  have k2 := kc2
  have h1 := h_co1
  have h2 := h_co2
  generalize b_ck = kk at *
  generalize b_cm = mm at *
  generalize b_co1 = o1 at *
  generalize b_co2 = o2 at *
  have k1 := Lib.hid k1
  have k2 := Lib.hid k2
  go_enter Try.func27, Try.ntmps27
  go_wp2_with fail
  refine (u1 _).mono ?_
  rintro e w1 ⟨a1, c1, rfl, hO1, hx1⟩
  go_wp2_with fail
  refine (u2 _).mono ?_
  rintro e w2 ⟨a2, c2, rfl, hO2, hx2⟩
  clear u1 u2
  have hle1 := hO1.le
  have hle2 := hO2.le
  go_wp2_with fail
  refine (cmac_any a1 none c1 0 0 kk [] _ (hO1.sl.ext hx2) hle1.1 (Sl.nil _ _) (by omega) (by omega)).mono ?_
  rintro e w3 ⟨a3, c3, rfl, hS3, hc3, hx3⟩
  go_wp2_with fail
  refine (cmac_any a1 a2 c1 16 c2 kk mm _ (hO1.sl.ext (hx2.trans hx3)) hle1.1 (hO2.sl.ext hx3) hle2.1 (by omega)).mono ?_
  rintro e w4 ⟨a4, c4, rfl, hS4, hc4, hx4⟩
  rw [k1.out] at hS3
  rw [k2.out] at hS4
  go_wp2_with fail
  refine (h1 _ _ _ (hS3.ext hx4)).mono ?_
  rintro e w5 ⟨rfl, hx5⟩
  go_wp2_with fail
  refine (h2 _ _ _ (hS4.ext hx5)).mono ?_
  rintro e w6 ⟨rfl, hx6⟩
  clear h1 h2
  go_wp2_with fail
  go_returns
  exact ⟨rfl, hx1.trans (hx2.trans (hx3.trans (hx4.trans (hx5.trans hx6))))⟩
end Go.Proofs.Ythooaeeajeajnaa
