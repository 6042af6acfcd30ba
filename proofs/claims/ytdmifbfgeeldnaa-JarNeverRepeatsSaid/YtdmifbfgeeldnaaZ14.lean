/- Lemmas of this claim, several texts joined. -/
import Derived.Shelf.Strings.Builder1
import Derived.Shelf.Small.Strs
import Derived.Shelf.Strings.Search1
import Derived.Test.YtdmifbfgeeldnaaRows
import Derived.Test.YtdmifbfgeeldnaaZ3
import Derived.Test.YtdmifbfgeeldnaaZ12
set_option linter.unusedVariables false
set_option linter.unusedSimpArgs false
/- The contracts of the library's functions that octets call, at this program's numbers. -/
namespace Go.Proofs.Ytdmifbfgeeldnaa
open Go.Shelf Go.RowKit Go.Sec
end Go.Proofs.Ytdmifbfgeeldnaa

/- The walks of the functions on octets, part two. -/
namespace Go.Proofs.Ytdmifbfgeeldnaa
open Go.RowKit Go.Sec Go.Oct BigFrame

set_option maxRecDepth 100000 in
set_option maxHeartbeats 1000000 in
theorem same_any (a b : Option Addr) (n c m d : Nat) (l k : List UInt8) (w : World) (h1 : Sl w a n l) (h2 : Sl w b m k) :
    Calls Try.prog 11 #[.slice a n c, .slice b m d] w fun e w' => e = .returned (.bool (l == k)) ∧ Ext w w' := by
  have e1 := run_str_by U hu8 hst w a n c l h1
  have e2 := run_str_by U hu8 hst w b m d k h2
  go_enter Try.func11, Try.ntmps11
  go_wp2
  go_ret
  exact ⟨rfl, Ext.refl _⟩
set_option maxRecDepth 100000 in
set_option maxHeartbeats 1000000 in
theorem bequal_any (a b : Option Addr) (n c m d : Nat) (l k : List UInt8) (w : World) (h1 : Sl w a n l) (h2 : Sl w b m k) :
    Calls Try.prog 47 #[.slice a n c, .slice b m d] w fun e w' => e = .returned (.bool (l == k)) ∧ Ext w w' := by
  have e1 := run_str_by U hu8 hst w a n c l h1
  have e2 := run_str_by U hu8 hst w b m d k h2
  go_enter Try.func47, Try.ntmps47
  go_wp2
  go_ret
  exact ⟨rfl, Ext.refl _⟩
set_option maxRecDepth 100000 in
set_option maxHeartbeats 1000000 in
theorem osame_any (a b : Option Addr) (n c m d : Nat) (l k : List UInt8) (w : World) (h1 : Sl w a n l) (h2 : Sl w b m k) :
    Calls Try.prog 36 #[.slice a n c, .slice b m d] w fun e w' => e = .returned (.bool (l == k)) ∧ Ext w w' := by
  go_enter Try.func36, Try.ntmps36
  go_wp2_with ((go_at_call 47; refine (bequal_any _ _ _ _ _ _ _ _ _ (h1.ext (by repeat (first | (with_reducible first | exact Ext.refl _ | assumption | apply Ext.alloc | apply Ext.ext | apply Ext.drew | refine Ext.setCell ?_ ?_ _) | (focus (simp [go_sem]; done))))) (h2.ext (by repeat (first | (with_reducible first | exact Ext.refl _ | assumption | apply Ext.alloc | apply Ext.ext | apply Ext.drew | refine Ext.setCell ?_ ?_ _) | (focus (simp [go_sem]; done)))))).mono ?_; rintro e w1 ⟨rfl, hxq⟩; obtain ⟨xq, rfl⟩ := hxq.out; clear hxq))
  go_ret
  exact ⟨rfl, (by repeat (first | (with_reducible first | exact Ext.refl _ | assumption | apply Ext.alloc | apply Ext.ext | apply Ext.drew | refine Ext.setCell ?_ ?_ _) | (focus (simp [go_sem]; done))))⟩

theorem dig_any (x : UInt8) (hx : x.toNat < 16) (W : World) : (Instr.index 9 (.string { data := #[48, 49, 50, 51, 52, 53, 54, 55, 56, 57, 97, 98, 99, 100, 101, 102] }) (.int .u8 (n8 x))).run Try.prog W = .ok (.int .u8 (n8 (dig x))) W :=
  run_index_str8 9 digits x hst hx W

theorem shr4_lt (x : UInt8) : (x >>> 4).toNat < 16 := by
  have := n8_lt x
  have h := shr8 x 4 (by decide)
  have h2 : n8 (x >>> 4) = n8 x / 16 := h.symm
  have h3 : n8 (x >>> 4) = ((x >>> 4).toNat : Int) := rfl
  omega
theorem and15_lt (x : UInt8) : (x &&& 15).toNat < 16 := by
  rw [UInt8.toNat_and]
  exact Nat.lt_succ_of_le Nat.and_le_right

end Go.Proofs.Ytdmifbfgeeldnaa

/- The walks of the functions on octets, part three. -/
namespace Go.Proofs.Ytdmifbfgeeldnaa
open Go.RowKit Go.Sec Go.Oct BigFrame

def CutPost (w : World) (n m : Nat) (l k : List UInt8) (e : Ending) (w' : World) : Prop :=
  ∃ a c b d, e = .returned (.tuple #[.slice a n c, .slice b m d, .bool true]) ∧ Own w' w.heap.size a n c l ∧ Own w' w.heap.size b m d k ∧ Ext w w'
end Go.Proofs.Ytdmifbfgeeldnaa
