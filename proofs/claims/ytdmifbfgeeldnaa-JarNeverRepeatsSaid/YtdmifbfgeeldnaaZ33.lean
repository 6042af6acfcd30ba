/- Lemmas of this claim, several texts joined. -/
import Derived.Test.YtdmifbfgeeldnaaZ7
import Derived.Test.YtdmifbfgeeldnaaZ11
import Derived.Test.YtdmifbfgeeldnaaZ16
set_option linter.unusedVariables false
set_option linter.unusedSimpArgs false
/- The walks of layer 3: HMAC and HKDF of the program. -/
namespace Go.Sha
open Go.Sec
def mix64 (l : List UInt8) (x : UInt8) : List UInt8 := (List.range 64).map fun i => b' l i ^^^ x
theorem mix64_length (l : List UInt8) (x : UInt8) : (mix64 l x).length = 64 := by simp [mix64]
theorem mixed_eq (key : List UInt8) (x : UInt8) : mixed key x = mix64 (keyOf key) x := rfl
theorem padG (l : List UInt8) (m i : Nat) : (l ++ List.replicate m (0 : UInt8)).getD i 0 = b' l i := by
  unfold b'
  rw [List.getD_eq_getElem?_getD, List.getD_eq_getElem?_getD]
  by_cases h : i < l.length
  · rw [List.getElem?_append_left h]
  · rw [List.getElem?_append_right (by omega), List.getElem?_eq_none (l := l) (by omega), List.getElem?_replicate]
    split <;> rfl
end Go.Sha
namespace Go.Sec
open Go.RowKit
theorem Own.grown {W W' : World} {row : Option Nat} {base n c : Nat} {a : Option Addr} {l : List UInt8} (h : Own W base a n c l) (hg : W.grownBy W' row) (hne : ∀ g, (Value.slice a n c).ownBlock = some g → row ≠ some g) : Own W' base a n c l := by
  refine ⟨h.1, h.2.1, ?_⟩
  rcases h.2.2 with h1 | ⟨g, cap, cur, hv, h2, h3, h4⟩
  · exact .inl h1
  · refine .inr ⟨g, cap, cur, hv, h2, ?_, h4⟩
    have hb : (Value.slice a n c).ownBlock = some g := by rw [hv]; rfl
    rw [hg.block g (Array.getElem?_eq_some_iff.1 h3).1 (fun e => hne g hb e.symm)]
    exact h3
end Go.Sec
namespace Go.Proofs.Ytdmifbfgeeldnaa
open Go.RowKit Go.Sec Go.Oct Go.Sha BigFrame

theorem b8_succ (i : Nat) (h : i < 255) : IntKind.u8.wrap ((i : Int) + 1) = n8 (UInt8.ofNat (i + 1)) := by
  rw [wrap_b8, n8_b8]; unfold n8; rw [UInt8.toNat_ofNat']; omega
theorem tK_len0 (key info : List UInt8) (i : Nat) : (tK key info i).length = if i = 0 then 0 else 32 := by
  cases i with
  | zero => rfl
  | succ i => rw [if_neg (by omega)]; exact hmac_length _ _

end Go.Proofs.Ytdmifbfgeeldnaa

/- Rows of slices of bytes of the call's own, the slices known to lie in blocks of another type. -/
namespace Go.Sec
open Go.RowKit
def OwnT (w : World) (base : Nat) (a : Option Addr) (n c : Nat) (L : List (List UInt8)) : Prop :=
  L.length = n ∧ ∃ xs : List Value, w.ownsRow base 25 1 (.slice a n c) n xs ∧ xs.length = n ∧
    ∀ k (h : k < L.length), ∃ a' n' c', xs[k]? = some (.slice a' n' c') ∧ n' ≤ c' ∧ Sl w a' n' L[k] ∧ InB w 0 a' n'
section
variable {w w' : World} {base n c : Nat} {a : Option Addr} {L : List (List UInt8)}
theorem OwnT.nil (w : World) (base : Nat) : OwnT w base none 0 0 [] := ⟨rfl, [], World.ownsRow_nil _ _ _ _, rfl, fun k h => by cases h⟩
theorem OwnT.ownB (h : OwnT w base a n c L) : OwnB w base a n c L := by
  obtain ⟨h1, xs, h2, h3, h4⟩ := h
  exact ⟨h1, xs, h2, h3, fun k hk => by obtain ⟨a', n', c', e1, e2, e3, e4⟩ := h4 k hk; exact ⟨a', n', c', e1, e2, e3, e4.mono (Nat.zero_le _)⟩⟩
theorem OwnT.rdB (h : OwnT w base a n c L) (b : Nat) : RdB w b a n L := by
  obtain ⟨h1, xs, h2, h3, h4⟩ := h
  exact ⟨h1, xs, h3, Rd.of_own h2, fun k hk => by obtain ⟨a', n', c', e1, e2, e3, e4⟩ := h4 k hk; exact ⟨a', n', c', e1, e2, e3, e4.mono (Nat.zero_le _)⟩⟩
theorem OwnT.ext (h : OwnT w base a n c L) (hx : Ext w w') : OwnT w' base a n c L := by
  obtain ⟨h1, xs, h2, h3, h4⟩ := h
  refine ⟨h1, xs, own_ext h2 hx, h3, fun k hk => ?_⟩
  obtain ⟨a', n', c', e1, e2, e3, e4⟩ := h4 k hk
  exact ⟨a', n', c', e1, e2, e3.ext hx, e4.ext hx⟩
theorem typed_off {row : Option Nat} {a1 : Option Addr} {n1 : Nat} (hrow : ∀ b t vs, Blk w b t vs → t ≠ 25 → row ≠ some b) (hg : w.grownBy w' row) {k : List UInt8} (hS : Sl w a1 n1 k) (hw : InB w 0 a1 n1) : Sl w' a1 n1 k ∧ InB w' 0 a1 n1 := by
  rcases hw with h0 | hw
  · subst h0
    have := List.eq_nil_of_length_eq_zero hS.len
    subst this
    exact ⟨Sl.nil _ _, .inl rfl⟩
  have hoff : Off a1 row := fun b o e he => by
    rcases hw b o e with h | ⟨t, vs, hB, ht⟩
    · omega
    · exact hrow b t vs hB ht he
  refine ⟨hS.grown hg hoff, .inr fun b o e => ?_⟩
  rcases hw b o e with h | ⟨t, vs, hB, ht⟩
  · omega
  · exact .inr ⟨t, vs, hB.grown hg (hrow b t vs hB ht), ht⟩
/-- One more slice. -/
theorem OwnT.snoc {c' : Nat} {a' : Option Addr} (h1 : L.length = n) (hg : w.grownBy w' (Value.slice a n c).ownBlock) {an : Option Addr} {nn cn : Nat} {l : List UInt8} (hs : Sl w an nn l) (hc : nn ≤ cn) (hl : InB w 0 an nn)
    {xs0 : List Value} (h0 : w.ownsRow base 25 1 (.slice a n c) n xs0) (hx1 : xs0.length = n) (h2 : ∀ k (h : k < L.length), ∃ a' n' c', xs0[k]? = some (.slice a' n' c') ∧ n' ≤ c' ∧ Sl w a' n' L[k] ∧ InB w 0 a' n') (h3 : w'.ownsRow base 25 1 (.slice a' (n + 1) c') (n + 1) (xs0 ++ [.slice an nn cn])) :
    OwnT w' base a' (n + 1) c' (L ++ [l]) := by
  have hrow : ∀ b t vs, Blk w b t vs → t ≠ 25 → (Value.slice a n c).ownBlock ≠ some b := fun b t vs hB ht => own_type h0 hB ht
  refine ⟨by simp [h1], _, h3, by simp [hx1], fun k hk => ?_⟩
  by_cases hkn : k < L.length
  · obtain ⟨a1, n1, c1, e1, e2, e3, e4⟩ := h2 k hkn
    obtain ⟨e5, e6⟩ := typed_off hrow hg e3 e4
    refine ⟨a1, n1, c1, ?_, e2, ?_, e6⟩
    · rw [List.getElem?_append_left (by omega)]; exact e1
    · rw [List.getElem_append_left hkn]; exact e5
  · obtain ⟨e5, e6⟩ := typed_off hrow hg hs hl
    have hk2 : k = L.length := by simp at hk; omega
    subst hk2
    refine ⟨an, nn, cn, ?_, hc, ?_, e6⟩
    · rw [List.getElem?_append_right (by omega), hx1, h1]; simp
    · rw [List.getElem_append_right (Nat.le_refl _)]; simpa using e5
theorem wpList_append_oneT {P : Program} (V : S8 P) {w : World} {ops : Array Oper} {rest : List Oper} {o : Oper} {a : Act} {Q : Exit → Act → World → Prop} (hgd : o.guard = none) (s x : Operand)
    (ho : o.op = .call { callee := .builtin .append, args := #[s, x], argTypes := #[28, 28] })
    (base : Nat) (sa0 : Option Addr) (n c0 : Nat) (L : List (List UInt8)) (hs : a.eval s = .slice sa0 n c0) (g : Nat) (hx : a.eval x = .slice (some ⟨g, 0, none⟩) 1 1)
    (hown : OwnT w base sa0 n c0 L) (an : Option Addr) (nn cn : Nat) (l : List UInt8) (hR : Rd w (some ⟨g, 0, none⟩) [.slice an nn cn]) (hS : Sl w an nn l) (hc : nn ≤ cn) (hl : InB w 0 an nn)
    (hlen : n ≤ 1000000) (hbase : base ≤ w.heap.size)
    (h : ∀ sa sc w', OwnT w' base sa (n + 1) sc (L ++ [l]) → w.grownBy w' (Value.slice sa0 n c0).ownBlock → Below base w w' → wpList P ops Q rest (a.put o.dst (.slice sa (n + 1) sc)) w') :
    wpList P ops Q (o :: rest) a w := by
  obtain ⟨i, hi, hz, hsz, hb⟩ := V.info
  obtain ⟨hL, xs, h2, h3, h4⟩ := hown
  refine wpList_append_srcL (P := P) hgd s x _ ho base 25 i _ 24 V.sl hi hz hsz hb rfl _ n _ hs h2 (some ⟨g, 0, none⟩) 1 1 _ hx hR rfl (fun u hu => by
    simp only [List.mem_singleton] at hu; subst hu; rfl) (by simp only [maxLen]; omega) (by omega) hbase ?_
  intro sa sc w' e1 e2 e3 _
  exact h sa sc w' (OwnT.snoc hL e2 hS hc hl h2 h3 h4 e1) e2 e3
/-- Another row grows. -/
theorem OwnT.grown {base' n' c' : Nat} {a' : Option Addr} {L' : List (List UInt8)} (h : OwnT w base a n c L) (hO : OwnB w base' a' n' c' L') (hg : w.grownBy w' (Value.slice a' n' c').ownBlock) (hne : ∀ g, (Value.slice a n c).ownBlock = some g → (Value.slice a' n' c').ownBlock ≠ some g) : OwnT w' base a n c L := by
  obtain ⟨h1, xs, h2, h3, h4⟩ := h
  refine ⟨h1, xs, ⟨h2.1, ?_⟩, h3, fun k hk => ?_⟩
  · rcases h2.2 with h | ⟨g', cap, cur, hv, hb, hh, r⟩
    · exact .inl h
    · refine .inr ⟨g', cap, cur, hv, hb, ?_, r⟩
      rw [hg.block g' (Array.getElem?_eq_some_iff.1 hh).1 (Ne.symm (hne g' (by rw [hv]; rfl)))]
      exact hh
  · obtain ⟨a1, n1, c1, e1, e2, e3, e4⟩ := h4 k hk
    obtain ⟨e5, e6⟩ := typed_off (fun b t vs hB ht => (by obtain ⟨_, ys, g2, _⟩ := hO; exact own_type g2 hB ht)) hg e3 e4
    exact ⟨a1, n1, c1, e1, e2, e5, e6⟩
end
end Go.Sec
