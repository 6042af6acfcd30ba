/- Whole arrays, more. -/
import Derived.Test.YthooaeeajeajnaaArr
namespace Go.Sec
open Go.RowKit

theorem run_load_rd {P : Program} {T : TypeId} {n b o : Nat} {cs : List Value} {w : World} (hT : RowT P T n) (hR : Rd w (some ⟨b, o, none⟩) cs) (hn : cs.length = n) :
    (Instr.loadAt T (.pointer (some ⟨b, o, none⟩))).run P w = .ok (.agg cs.toArray) w := by
  obtain ⟨d, hu, hd⟩ := hT.und
  exact run_loadAt_mid w b o T cs d hR.range hu hd (by rw [hT.info, hn])
theorem VD_load_arr {P : Program} {ops : Array Oper} {A : List (List Nat)} {W : World} {Q : Act → World → Prop} {o : Oper} {rest : List Oper} {i : Nat} {H : List (Nat × (Par → World → Prop))} {F : Us → Act} {T : TypeId} {n : Nat} (hT : RowT P T n) (x : Operand) (ho : o.op = .load T x)
    (hw : ∀ us, Region.wanted o (yielded ops (F us).tmps) = true) (b off : Nat) (hx : ∀ us, (F us).eval x = .pointer (some ⟨b, off, none⟩)) (cs : List Value) (hc : Rd W (some ⟨b, off, none⟩) cs) (hn : cs.length = n)
    (hr : VD P ops A W Q rest (i + 1) H (fun us => (F us).put o.dst (.agg cs.toArray))) : VD P ops A W Q (o :: rest) i H F :=
  VD_der (fun _ => .agg cs.toArray) (fun us w' hxw _ => ⟨hw us, by
    unfold execOp
    simp only [ho, hx, Sem.run_bind, Sem.run_pure, Result.andThen_ok, run_load_rd hT (hc.ext hxw) hn]⟩) hr
/-- A row that is filled from the left. -/
def fillTo (l : List UInt8) (n k : Nat) : List UInt8 := l.take k ++ List.replicate (n - k) 0
theorem fillTo_zero (l : List UInt8) (n : Nat) : fillTo l n 0 = List.replicate n 0 := by simp [fillTo]
theorem fillTo_all (l : List UInt8) (n : Nat) (h : l.length = n) : fillTo l n n = l := by simp [fillTo, ← h]
theorem fillTo_length (l : List UInt8) (n k : Nat) (h : l.length = n) (hk : k ≤ n) : (fillTo l n k).length = n := by simp [fillTo]; omega
theorem fillTo_step (l : List UInt8) (n k m : Nat) (h : l.length = n) (hk : k + m ≤ n) :
    ((fillTo l n k).map u8v).take k ++ ((l.drop k).take m).map u8v ++ ((fillTo l n k).map u8v).drop (k + m) = (fillTo l n (k + m)).map u8v := by
  rw [← List.map_take, ← List.map_drop, ← List.map_append, ← List.map_append]
  congr 1
  unfold fillTo
  have h1 : (l.take k).length = k := by simp; omega
  rw [List.take_append_of_le_length (by omega), List.take_of_length_le (by omega), List.take_add, List.append_assoc, List.append_assoc]
  congr 2
  rw [List.drop_append, h1, List.drop_of_length_le (by omega), List.nil_append, List.drop_replicate]
  congr 1
  omega
theorem Own.le {w : World} {base : Nat} {a : Option Addr} {n c : Nat} {l : List UInt8} (hO : Own w base a n c l) : n ≤ c ∧ c ≤ maxLen := by
  rcases hO.2.2 with ⟨h1, h2⟩ | ⟨g, cap, cur, h1, _, _, h2, h3, _⟩
  · injection h1; subst_vars; exact ⟨Nat.zero_le _, by simp only [maxLen]; omega⟩
  · injection h1; subst_vars; exact ⟨h2, h3⟩
theorem Blk.sl {w : World} {g : Nat} {T : TypeId} {l : List UInt8} {n : Nat} (h : Blk w g T (l.map u8v)) (hn : l.length = n) : Sl w (some ⟨g, 0, none⟩) n l := ⟨hn, h.rd⟩
end Go.Sec
