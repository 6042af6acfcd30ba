/- Lemmas of this claim, several texts joined. -/
import Derived.Test.YtdmifbfgeeldnaaZ17
import Derived.Test.YtdmifbfgeeldnaaZ18
set_option linter.unusedVariables false
set_option linter.unusedSimpArgs false
/- The walks of the program's SHA-256: rotations, the constants, a block. -/
namespace Go.Sec
open Go.RowKit
/-- copy of cells into a block that is known. -/
theorem wpList_copy_vals {P : Program} {w : World} {ops : Array Oper} {rest : List Oper} {o : Oper} {a : Act} {Q : Exit → Act → World → Prop} (hgd : o.guard = none) (d s : Operand) (dT sT : TypeId)
    (ho : o.op = .call { callee := .builtin .copy, args := #[d, s], argTypes := #[dT, sT] }) (elem : TypeId) (hu : P.underlying dT = some (.slice elem)) (hsz : (P.info? elem).map (·.size) = some 1)
    (g off dLen dCap sg so n c : Nat) (hd : a.eval d = .slice (some ⟨g, off, none⟩) dLen dCap) (hs : a.eval s = .slice (some ⟨sg, so, none⟩) n c)
    (T : TypeId) (vs : List Value) (hB : Blk w g T vs) (news : List Value) (hS : Rd w (some ⟨sg, so, none⟩) news) (hm : news.length = min n dLen) (hfit : off + news.length ≤ vs.length) (h1 : ∀ v ∈ news, v.oneCell' = true)
    (h : ∀ w', Blk w' g T (vs.take off ++ (news ++ vs.drop (off + news.length))) → Mut g w w' → wpList P ops Q rest (a.put o.dst (.int .i64 (news.length : Int))) w') :
    wpList P ops Q (o :: rest) a w := by
  refine wpList_copy_own hgd d s dT sT ho elem hu hsz g off dLen dCap ⟨sg, so, none⟩ n c hd hs vs.toArray T hB news hm (fun j v hv => ?_) (by simpa using hfit) h1 ?_
  · rw [addr_add]
    rcases hS with hS | ⟨b, o', he, _, hc⟩
    · subst hS; simp at hv
    · injection he with he
      injection he with e1 e2
      subst e1 e2
      exact hc j v hv
  · exact h _ (setRow_heap w g _ _ T _ hB) (setRow_mut _ _ _)
/-- The first k words new, the others as they were. -/
def upW (f : Nat → UInt32) (l : List UInt32) (k : Nat) : List UInt32 := (List.range k).map f ++ l.drop k
theorem upW_zero (f : Nat → UInt32) (l : List UInt32) : upW f l 0 = l := by simp [upW]
theorem upW_all (f : Nat → UInt32) (l : List UInt32) (k : Nat) (h : l.length = k) : upW f l k = (List.range k).map f := by simp [upW, h]
theorem upW_get (f : Nat → UInt32) (l : List UInt32) (k : Nat) (hk : k < l.length) : (upW f l k)[k]? = some (l.getD k 0) := by
  unfold upW
  rw [List.getElem?_append_right (by simp)]
  simp [hk]
theorem upW_set (f : Nat → UInt32) (l : List UInt32) (k : Nat) (h : k < l.length) : (upW f l k).set k (f k) = upW f l (k + 1) := by
  unfold upW
  rw [List.set_append_right _ _ (by simp)]
  simp only [List.length_map, List.length_range, Nat.sub_self]
  rw [List.drop_eq_getElem_cons h, List.set_cons_zero, List.range_succ, List.map_append, List.append_assoc]
  rfl
end Go.Sec
namespace Go.Proofs.Ytdmifbfgeeldnaa
open Go.RowKit Go.Sec Go.Oct Go.Sha BigFrame

theorem and31 : ∀ n : Fin 32, 1 ≤ n.val → bits .and .u64 (18446744073709551616 - (n.val : Int)) 31 = ((32 - n.val : Nat) : Int) := by decide +kernel
theorem or_comm32 (x y : UInt32) : x ||| y = y ||| x := by
  apply UInt32.toNat_inj.1
  rw [UInt32.toNat_or, UInt32.toNat_or, Nat.or_comm]
theorem round_list (W : List UInt32) (a0 a1 a2 a3 a4 a5 a6 a7 : UInt32) (t : Nat) (x y : UInt32) (hx : x = t1 [a0, a1, a2, a3, a4, a5, a6, a7] (w' ks t) (w' W t)) (hy : y = t2 [a0, a1, a2, a3, a4, a5, a6, a7]) :
    round W [a0, a1, a2, a3, a4, a5, a6, a7] t = [x + y, a0, a1, a2, a3 + x, a4, a5, a6] := by subst hx hy; rfl
theorem rounds_length (W h : List UInt32) (hl : h.length = 8) (t : Nat) : (rounds W h t).length = 8 := by
  cases t with
  | zero => exact hl
  | succ t => rfl
theorem list8 (l : List UInt32) (h : l.length = 8) : ∃ a0 a1 a2 a3 a4 a5 a6 a7, l = [a0, a1, a2, a3, a4, a5, a6, a7] := by
  match l, h with
  | [a0, a1, a2, a3, a4, a5, a6, a7], _ => exact ⟨a0, a1, a2, a3, a4, a5, a6, a7, rfl⟩

end Go.Proofs.Ytdmifbfgeeldnaa
