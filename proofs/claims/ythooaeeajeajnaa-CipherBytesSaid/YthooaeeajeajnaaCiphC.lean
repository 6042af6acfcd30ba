/- CipherBytes: the walk of the law. -/
import Derived.Test.YthooaeeajeajnaaCiphB
namespace Go.Proofs.Ythooaeeajeajnaa
open Go.RowKit Go.Sec Go.Oct Go.Aes BigFrame

theorem u8_of_wf {a : Int} (h : (Lit.int .u8 a).wf = true) : ∃ x : UInt8, a = n8 x := by
  simp [Lit.wf, IntKind.min, IntKind.max, IntKind.signed, IntKind.bits] at h
  exact ⟨b8 a, by rw [n8_b8]; omega⟩

set_option maxRecDepth 100000 in
set_option maxHeartbeats 4000000 in
theorem cipherBytes_walk (x y z : UInt8) (w : World) : Calls Try.prog 4 #[.int .u8 (n8 x), .int .u8 (n8 y), .int .u8 (n8 z)] w fun e w' => e = .returned (.bool true) ∧ Ext w w' := by
  have hs : (x == y) = false → (sub x != sub y) = true := fun h => by
    have h : x ≠ y := by simpa using h
    have : sub x ≠ sub y := fun e => h (sub_inj e)
    simp [this]
  obtain ⟨yz, hyz⟩ : ∃ v, y ^^^ z = v := ⟨_, rfl⟩
  obtain ⟨m1, e1⟩ : ∃ m, mul x y = m := ⟨_, rfl⟩
  obtain ⟨m2, e2⟩ : ∃ m, mul x z = m := ⟨_, rfl⟩
  obtain ⟨m3, e3⟩ : ∃ m, mul y z = m := ⟨_, rfl⟩
  obtain ⟨m4, e4⟩ : ∃ m, mul x m3 = m := ⟨_, rfl⟩
  have e5 : mul y x = m1 := by rw [← e1, mul_comm]
  have e6 : mul x yz = m1 ^^^ m2 := by rw [← hyz, ← e1, ← e2, mul_right]
  have e7 : mul m1 z = m4 := by rw [← e4, ← e3, ← e1, mul_assoc]
  obtain ⟨sx, e8⟩ : ∃ m, sub x = m := ⟨_, rfl⟩
  obtain ⟨sy, e9⟩ : ∃ m, sub y = m := ⟨_, rfl⟩
  rw [e8, e9] at hs
  cases hb : (x == y)
  case' false => have hn := hs hb
  all_goals
    clear hs
    go_enter Try.func4, Try.ntmps4
    go_wp2_with (first
      | (go_at_call 20; refine (known4_any _).mono ?_; rintro e w1 ⟨rfl, hxq⟩; obtain ⟨xq, rfl⟩ := hxq.out; clear hxq)
      | (go_at_call 22; refine (csub_any _ _).mono ?_; rintro e w1 ⟨rfl, hxq⟩; obtain ⟨xq, rfl⟩ := hxq.out; clear hxq)
      | (go_at_call 23; refine (rsub_any _ _).mono ?_; rintro e w1 ⟨rfl, hxq⟩; obtain ⟨xq, rfl⟩ := hxq.out; clear hxq)
      | (go_at_call 24; refine (times_any _ _ _).mono ?_; rintro e w1 ⟨rfl, hxq⟩; obtain ⟨xq, rfl⟩ := hxq.out; clear hxq)
      | (go_at_call 25; refine (rtimes_any _ _ _).mono ?_; rintro e w1 ⟨rfl, hxq⟩; obtain ⟨xq, rfl⟩ := hxq.out; clear hxq)
      | fail)
    go_returns
    exact ⟨rfl, (by repeat (first | (with_reducible first | exact Ext.refl _ | assumption | apply Ext.alloc | apply Ext.ext | apply Ext.drew | refine Ext.setCell ?_ ?_ _) | (focus (simp [go_sem]; done))))⟩
theorem cipherBytes_law (a0 a1 a2 : Int) (w0 : (Lit.int .u8 a0).wf = true) (w1 : (Lit.int .u8 a1).wf = true) (w2 : (Lit.int .u8 a2).wf = true) (w : World) :
    Calls Try.prog 4 #[.int .u8 a0, .int .u8 a1, .int .u8 a2] w fun e w' => e = .returned (.bool true) ∧ Below w.heap.size w w' := by
  obtain ⟨x, rfl⟩ := u8_of_wf w0
  obtain ⟨y, rfl⟩ := u8_of_wf w1
  obtain ⟨z, rfl⟩ := u8_of_wf w2
  exact cipherBytes_walk x y z w
end Go.Proofs.Ythooaeeajeajnaa
