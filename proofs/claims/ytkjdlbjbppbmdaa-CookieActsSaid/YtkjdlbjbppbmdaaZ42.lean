/- Lemmas of this claim, several texts joined. -/
import Derived.Test.YtkjdlbjbppbmdaaZ30
set_option linter.unusedVariables false
set_option linter.unusedSimpArgs false
/- Layer 19 as plain functions. -/
namespace Go.Cook
open Go.Sha Go.Oct Go.Aes Go.Sec
abbrev Ring := List (Int × List UInt8)
def startS : List UInt8 := [115, 101, 99, 116, 105, 109, 101, 32, 115, 116, 97, 114, 116]
def nextS : List UInt8 := [115, 101, 99, 116, 105, 109, 101, 32, 110, 101, 120, 116]
def okM (m : Int × List UInt8) : Bool := decide (0 ≤ m.1 ∧ m.1 ≤ 4294967295 ∧ m.2.length = 32)
/-- The first so many are of the form, and different. -/
def fineR (r : Ring) : Bool := r.all okM && decide (r.map (·.1)).Nodup
def validR (r : Ring) : Bool := fineR r && decide (1 ≤ r.length ∧ r.length ≤ 4)
def startE (id : Int) (seed : List UInt8) : Ring × Int :=
  if id < 0 ∨ 4294967295 < id then ([], 4) else if seed.length ≠ 32 then ([], 5) else ([(id, expandK seed startS 32)], 0)
def hd (r : Ring) : Int × List UInt8 := r.getD 0 (0, [])
def rotR (r : Ring) : Ring := (((hd r).1 + 1) % 4294967296, expandK (hd r).2 nextS 32) :: r.take 3
def rotateE (r : Ring) : Ring × Int :=
  if validR r = false then ([], 3) else if ((hd r).1 + 1) % 4294967296 ∈ (r.take 3).map (·.1) then ([], 7) else (rotR r, 0)
def idB (id : Int) : List UInt8 := putL 4 (UInt64.ofNat id.toNat)
def plainC (algo : Int) (up down : List UInt8) : List UInt8 := putL 2 (UInt64.ofNat algo.toNat) ++ ([0, 0] ++ (up ++ down))
def cookC (m : Int × List UInt8) (algo : Int) (up down nonce : List UInt8) : List UInt8 :=
  idB m.1 ++ (nonce ++ (sealE m.2 [idB m.1, nonce] (plainC algo up down)).1)
def makeE (r : Ring) (algo : Int) (up down nonce : List UInt8) : List UInt8 × Int :=
  if validR r = false then ([], 3) else if algo < 0 ∨ 65535 < algo then ([], 4) else if up.length ≠ 32 ∨ down.length ≠ 32 then ([], 5) else if nonce.length ≠ 16 then ([], 3)
  else (cookC (hd r) algo up down nonce, 0)
def idOf (c : List UInt8) : Int := n64 (getL (c.take 4))
def idE (c : List UInt8) : Int × Int := if c.length ≠ 104 then (0, 3) else (idOf c, 0)
def ageOf (r : Ring) (c : List UInt8) : Option Nat := r.findIdx? fun m => m.1 == idOf c
def innerE (r : Ring) (i : Nat) (c : List UInt8) : List UInt8 × Int := openE (r.getD i (0, [])).2 [c.take 4, (c.drop 4).take 16] (c.drop 20)
structure Opened where
  algo : Int
  up : List UInt8
  down : List UInt8
  age : Int
  err : Int
deriving DecidableEq
def openR (r : Ring) (c : List UInt8) : Opened :=
  if validR r = false ∨ c.length ≠ 104 then ⟨0, [], [], 0, 3⟩ else
  match ageOf r c with
  | none => ⟨0, [], [], 0, 5⟩
  | some i => if (innerE r i c).2 ≠ 0 ∨ ((innerE r i c).1.drop 2).take 2 ≠ [0, 0] then ⟨0, [], [], 0, 6⟩
    else ⟨n64 (getL ((innerE r i c).1.take 2)), ((innerE r i c).1.drop 4).take 32, ((innerE r i c).1.drop 36).take 32, i, 0⟩

theorem idB_length (id : Int) : (idB id).length = 4 := putL_length _ _
theorem plainC_length (algo : Int) (up down : List UInt8) : (plainC algo up down).length = 4 + up.length + down.length := by simp [plainC, putL_length]; omega
theorem cad_ok {ky nonce : List UInt8} (hk : ky.length = 32) (hn : nonce.length = 16) (id : Int) : checkA ky [idB id, nonce] = 0 :=
  checkA_light hk (by simp) (by simp [idB_length]; omega)
theorem validR_iff {r : Ring} : validR r = true ↔ (∀ m ∈ r, 0 ≤ m.1 ∧ m.1 ≤ 4294967295 ∧ m.2.length = 32) ∧ (r.map (·.1)).Nodup ∧ 1 ≤ r.length ∧ r.length ≤ 4 := by
  unfold validR fineR okM
  simp [and_assoc]
theorem hd_mem {r : Ring} (h : 1 ≤ r.length) : hd r ∈ r := by
  unfold hd
  rw [List.getD_eq_getElem?_getD, List.getElem?_eq_getElem (by omega), Option.getD_some]
  exact List.getElem_mem _
theorem rot_in {r : Ring} : ∀ m ∈ r.take 3, m ∈ r := fun _ h => List.mem_of_mem_take h
theorem rotR_valid {r : Ring} (h : validR r = true) (hn : ((hd r).1 + 1) % 4294967296 ∉ (r.take 3).map (·.1)) : validR (rotR r) = true := by
  obtain ⟨h1, h2, h3, h4⟩ := validR_iff.1 h
  refine validR_iff.2 ⟨?_, ?_, ?_, ?_⟩
  · intro m hm
    rcases List.mem_cons.1 hm with rfl | hm
    · exact ⟨by simp only; omega, by simp only; omega, expandK_length _ _ _⟩
    · exact h1 m (rot_in m hm)
  · unfold rotR
    rw [List.map_cons, List.nodup_cons]
    exact ⟨hn, by rw [List.map_take]; exact h2.sublist (List.take_sublist _ _)⟩
  · simp [rotR]
  · simp [rotR]; omega
/-- The identifiers fall, from a number on. -/
def Down (r : Ring) : Prop := (r.map (·.1)).Pairwise (· > ·)
theorem down_rot {r : Ring} (h : validR r = true) (hd' : Down r) (hb : (hd r).1 < 4294967295) : Down (rotR r) ∧ (hd (rotR r)).1 = (hd r).1 + 1 ∧ validR (rotR r) = true ∧ rotateE r = (rotR r, 0) := by
  obtain ⟨h1, h2, h3, h4⟩ := validR_iff.1 h
  have h0 := (h1 _ (hd_mem h3)).1
  have e : ((hd r).1 + 1) % 4294967296 = (hd r).1 + 1 := by omega
  have hle : ∀ m ∈ r, m.1 ≤ (hd r).1 := by
    intro m hm
    cases r with
    | nil => cases hm
    | cons x r =>
      have hx : hd (x :: r) = x := rfl
      rw [hx]
      rcases List.mem_cons.1 hm with rfl | hm
      · exact Int.le_refl _
      · unfold Down at hd'
        rw [List.map_cons, List.pairwise_cons] at hd'
        have := hd'.1 m.1 (List.mem_map_of_mem hm)
        omega
  have hn : ((hd r).1 + 1) % 4294967296 ∉ (r.take 3).map (·.1) := by
    rw [e]
    intro hm
    obtain ⟨m, hm, he⟩ := List.mem_map.1 hm
    have := hle m (rot_in m hm)
    omega
  refine ⟨?_, ?_, rotR_valid h hn, ?_⟩
  · unfold Down rotR
    rw [List.map_cons, List.pairwise_cons]
    refine ⟨?_, by rw [List.map_take]; exact hd'.sublist (List.take_sublist _ _)⟩
    intro a ha
    obtain ⟨m, hm, rfl⟩ := List.mem_map.1 ha
    have := hle m (rot_in m hm)
    simp only; omega
  · show ((hd r).1 + 1) % 4294967296 = _
    exact e
  · unfold rotateE
    rw [if_neg (by rw [h]; simp), if_neg hn]
/-- The ring of the statements' kit. -/
def ring0 (s : Nat) (key : List UInt8) : Ring := [((s : Int), expandK key startS 32)]
def rots (r : Ring) : Nat → Ring
  | 0 => r
  | t + 1 => rotR (rots r t)
theorem rots_add (r : Ring) (a b : Nat) : rots (rots r a) b = rots r (a + b) := by
  induction b with
  | zero => rfl
  | succ b ih => rw [rots, ih]; rfl
theorem rotR_length (r : Ring) : (rotR r).length = min (r.length + 1) 4 := by simp [rotR]; omega
/-- A ring of the kit, behind so many turns. -/
structure Fine (r : Ring) : Prop where
  ok : validR r = true
  down : Down r
theorem Fine.rot {r : Ring} (h : Fine r) (hb : (hd r).1 < 4294967295) : Fine (rotR r) ∧ (hd (rotR r)).1 = (hd r).1 + 1 ∧ rotateE r = (rotR r, 0) := by
  obtain ⟨h1, h2, h3, h4⟩ := down_rot h.ok h.down hb
  exact ⟨⟨h3, h1⟩, h2, h4⟩
theorem fine0 (s : Nat) (key : List UInt8) (hs : s ≤ 4294967295) : Fine (ring0 s key) := by
  refine ⟨validR_iff.2 ⟨?_, by simp [ring0], by simp [ring0], by simp [ring0]⟩, by simp [Down, ring0]⟩
  intro m hm
  simp only [ring0, List.mem_singleton] at hm
  subst hm
  exact ⟨by simp only; omega, by simp only; omega, expandK_length _ _ _⟩
theorem fineT {r : Ring} (h : Fine r) (t : Nat) (hb : (hd r).1 + t ≤ 4294967295) : Fine (rots r t) ∧ (hd (rots r t)).1 = (hd r).1 + t := by
  induction t with
  | zero => exact ⟨h, by simp [rots]⟩
  | succ t ih =>
    obtain ⟨h1, h2⟩ := ih (by omega)
    obtain ⟨h3, h4, _⟩ := h1.rot (by omega)
    exact ⟨h3, by rw [rots, h4, h2]; omega⟩
theorem startE_ok {s : Nat} {seed : List UInt8} (h : s ≤ 4294967295) (hl : seed.length = 32) : startE (s : Int) seed = (ring0 s seed, 0) := by
  unfold startE
  rw [if_neg (by omega), if_neg (by omega)]
  rfl
theorem rots_get (r : Ring) (t : Nat) (ht : t ≤ 3) (hr : 1 ≤ r.length) : (rots r t)[t]? = r[0]? := by
  have g : ∀ (r : Ring) (i : Nat), i < 3 → (rotR r)[i + 1]? = r[i]? := fun r i hi => by
    unfold rotR
    rw [List.getElem?_cons_succ, List.getElem?_take, if_pos hi]
  match t, ht with
  | 0, _ => rfl
  | 1, _ => exact g _ 0 (by omega)
  | 2, _ => exact (g _ 1 (by omega)).trans (g _ 0 (by omega))
  | 3, _ => exact (g _ 2 (by omega)).trans ((g _ 1 (by omega)).trans (g _ 0 (by omega)))
theorem n64_ofNat (n : Nat) (h : n < 18446744073709551616) : n64 (UInt64.ofNat n) = (n : Int) := by
  unfold n64; rw [UInt64.toNat_ofNat']; omega
/-- What a cookie consists of. -/
theorem cookC_parts {m : Int × List UInt8} {algo : Int} {up down nonce : List UInt8} (h0 : 0 ≤ m.1) (h1 : m.1 ≤ 4294967295) (hk : m.2.length = 32) (hn : nonce.length = 16) (hu : up.length = 32) (hd' : down.length = 32) :
    (cookC m algo up down nonce).length = 104 ∧ (cookC m algo up down nonce).take 4 = idB m.1 ∧ ((cookC m algo up down nonce).drop 4).take 16 = nonce ∧ (cookC m algo up down nonce).drop 20 = (sealE m.2 [idB m.1, nonce] (plainC algo up down)).1 ∧ idOf (cookC m algo up down nonce) = m.1 := by
  have hl := idB_length m.1
  have hpl := plainC_length algo up down
  have ht : (cookC m algo up down nonce).take 4 = idB m.1 := by unfold cookC; rw [List.take_append_of_le_length (by omega), List.take_of_length_le (by omega)]
  have hd4 : (cookC m algo up down nonce).drop 4 = nonce ++ (sealE m.2 [idB m.1, nonce] (plainC algo up down)).1 := by
    unfold cookC; rw [List.drop_append_of_le_length (by omega), List.drop_of_length_le (by omega), List.nil_append]
  refine ⟨?_, ht, ?_, ?_, ?_⟩
  · unfold cookC
    rw [sealE_ok (cad_ok hk hn _) (by omega)]
    simp only [List.length_append, s2v_length, stream_length, hl, hn, hpl]; omega
  · rw [hd4, List.take_append_of_le_length (by omega), List.take_of_length_le (by omega)]
  · rw [show 20 = 4 + 16 from rfl, ← List.drop_drop, hd4, List.drop_append_of_le_length (by omega), List.drop_of_length_le (by omega), List.nil_append]
  · unfold idOf
    rw [ht]
    unfold idB
    unfold n64
    rw [getL_put 4 _ (by omega) (by omega)]
    omega
theorem findIdx_at {r : Ring} {c : List UInt8} {i : Nat} {m : Int × List UInt8} (hnd : (r.map (·.1)).Nodup) (hm : r[i]? = some m) (hid : m.1 = idOf c) : ageOf r c = some i := by
  unfold ageOf
  obtain ⟨hi, hm⟩ := List.getElem?_eq_some_iff.1 hm
  rw [List.findIdx?_eq_some_iff_getElem]
  refine ⟨hi, by rw [hm]; simpa using hid, fun j hj => ?_⟩
  have := List.pairwise_iff_getElem.1 hnd j i (by simp; omega) (by simpa using hi) hj
  simp only [List.getElem_map] at this
  rw [hm, hid] at this
  simpa using this
/-- What a ring puts into a cookie, its rotations open. -/
theorem open_make {r : Ring} {i : Nat} {m : Int × List UInt8} {algo : Int} {up down nonce : List UInt8} (hr : validR r = true) (hm : r[i]? = some m) (ha : 0 ≤ algo) (ha2 : algo ≤ 65535) (hn : nonce.length = 16) (hu : up.length = 32) (hd' : down.length = 32) :
    openR r (cookC m algo up down nonce) = ⟨algo, up, down, i, 0⟩ := by
  obtain ⟨h1, h2, h3, h4⟩ := validR_iff.1 hr
  obtain ⟨k0, k1, k2⟩ := h1 m (List.mem_of_getElem? hm)
  obtain ⟨c1, c2, c3, c4, c5⟩ := cookC_parts (algo := algo) k0 k1 k2 hn hu hd'
  have hpl := plainC_length algo up down
  have hin : innerE r i (cookC m algo up down nonce) = (plainC algo up down, 0) := by
    unfold innerE
    rw [c2, c3, c4, List.getD_eq_getElem?_getD, hm, Option.getD_some]
    exact openE_seal (cad_ok k2 hn _) (by omega)
  have p2 := putL_length 2 (UInt64.ofNat algo.toNat)
  have e1 : (plainC algo up down).take 2 = putL 2 (UInt64.ofNat algo.toNat) := by unfold plainC; rw [List.take_append_of_le_length (by omega), List.take_of_length_le (by omega)]
  have e2 : (plainC algo up down).drop 2 = [0, 0] ++ (up ++ down) := by unfold plainC; rw [List.drop_append_of_le_length (by omega), List.drop_of_length_le (by omega), List.nil_append]
  have e3 : (plainC algo up down).drop 4 = up ++ down := by rw [show 4 = 2 + 2 from rfl, ← List.drop_drop, e2]; rfl
  have e4 : (plainC algo up down).drop 36 = down := by rw [show 36 = 4 + 32 from rfl, ← List.drop_drop, e3, List.drop_append_of_le_length (by omega), List.drop_of_length_le (by omega), List.nil_append]
  unfold openR
  rw [if_neg (by simp [hr, c1]), findIdx_at h2 hm c5.symm]
  simp only
  rw [hin]
  simp only
  rw [e1, e2, e3, e4, if_neg (by simp), List.take_append_of_le_length (by omega), List.take_of_length_le (by omega), List.take_of_length_le (by omega)]
  unfold n64
  rw [getL_put 2 _ (by omega) (by omega)]
  congr 1; omega
/-- A cookie whose key is no longer there. -/
theorem open_gone {r : Ring} {c : List UInt8} (hr : validR r = true) (hc : c.length = 104) (h : ∀ m ∈ r, m.1 ≠ idOf c) : openR r c = ⟨0, [], [], 0, 5⟩ := by
  have : ageOf r c = none := by
    unfold ageOf
    rw [List.findIdx?_eq_none_iff]
    intro m hm
    simpa using h m hm
  unfold openR
  rw [if_neg (by simp [hr, hc]), this]
theorem rots4_ids {r : Ring} (h : Fine r) (t : Nat) (ht : 4 ≤ t) (hb : (hd r).1 + t ≤ 4294967295) : ∀ m ∈ rots r t, (hd r).1 < m.1 := by
  have key : ∀ (q : Ring), Fine q → (hd q).1 < 4294967295 → ∀ (B : Int) (k : Nat), B ≤ (hd q).1 → k ≤ 3 → (∀ m ∈ q.take k, B < m.1) → ∀ m ∈ (rotR q).take (k + 1), B < m.1 := by
    intro q hq hqb B k hB hk hm m hmm
    rw [rotR, List.take_succ_cons] at hmm
    rcases List.mem_cons.1 hmm with rfl | hmm
    · have h0 := ((validR_iff.1 hq.ok).1 _ (hd_mem (validR_iff.1 hq.ok).2.2.1)).1
      simp only
      have : ((hd q).1 + 1) % 4294967296 = (hd q).1 + 1 := by omega
      omega
    · rw [List.take_take, Nat.min_eq_left hk] at hmm
      exact hm m hmm
  have step : ∀ n, n ≤ t → ∀ m ∈ (rots r n).take (min n 4), (hd r).1 < m.1 := by
    intro n
    induction n with
    | zero => intro _ m hm; simp at hm
    | succ n ih =>
      intro hn m hm
      obtain ⟨f1, f2⟩ := fineT h n (by omega)
      rcases Nat.lt_or_ge n 4 with h4 | h4
      · rw [show min (n + 1) 4 = n + 1 by omega] at hm
        have := ih (by omega)
        rw [show min n 4 = n by omega] at this
        exact key _ f1 (by omega) _ n (by omega) (by omega) this m hm
      · rw [show min (n + 1) 4 = 3 + 1 by omega] at hm
        have := ih (by omega)
        rw [show min n 4 = 4 by omega] at this
        exact key _ f1 (by omega) _ 3 (by omega) (by omega) (fun m hm => this m (by rw [← List.take_append_drop 3 ((rots r n).take 4), List.take_take] ; exact List.mem_append_left _ hm)) m hm
  intro m hm
  have hl : (rots r t).length ≤ 4 := (validR_iff.1 (fineT h t hb).1.ok).2.2.2
  exact step t (Nat.le_refl _) m (by rw [List.take_of_length_le (by omega)]; exact hm)
end Go.Cook
