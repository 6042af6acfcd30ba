/- Lemmas of this claim, several texts joined. -/
import Derived.Test.YtmmbcgbadaojeaaZ39
import Derived.Test.YtmmbcgbadaojeaaZ45
import Derived.Test.YtmmbcgbadaojeaaZ46
set_option linter.unusedVariables false
set_option linter.unusedSimpArgs false
/- Layer 22: putting cookies into a drawn jar, and taking them in their order. No program. -/
namespace Go.Jar
open Go.Sha Go.Lane
def putW (s m : Nat) : List (List UInt8) := (List.range m).map fun i => wbytes (s + 9000000 * (i + 1)) 104
theorem putW_length (s m : Nat) : (putW s m).length = m := by simp [putW]
theorem putW_succ (s m : Nat) : putW s (m + 1) = putW s m ++ [wbytes (s + 9000000 * (m + 1)) 104] := by simp [putW, List.range_succ]
theorem putW_104 {s k : Nat} {b : List UInt8} (h : b ∈ putW s k) : b.length = 104 := by
  obtain ⟨i, _, rfl⟩ := List.mem_map.1 h
  exact wbytes_length _ _
theorem allW_nodup {s k m : Nat} (hs : s < 1024) (hk : k ≤ 8) (hm : m ≤ 11) : (ckW s k ++ putW s m).Nodup := by
  have h := cookiesK hs
  have e : offsK.map (fun o => wbytes (s + o) 104) = ckW s 8 ++ putW s 11 := by
    unfold offsK ckW putW
    rw [List.map_append, List.map_map, List.map_map]
    rfl
  have h2 : (ckW s 8 ++ putW s 11).Nodup := by
    rw [← e]
    exact List.pairwise_map.2 h
  refine h2.sublist ?_
  unfold ckW putW
  exact ((List.range_sublist.2 hk).map _).append ((List.range_sublist.2 hm).map _)
/-- What is to be taken. -/
def wantW (s k m : Nat) : List (List UInt8) := (ckW s k ++ putW s m).take 8
theorem addJ_put {s k m : Nat} (hs : s < 1024) (hk : k ≤ 8) (hm : m ≤ 11) : ∀ j, j ≤ m → addJ (jarW s k) (putW s j) = { jarW s k with ck := wantW s k j } := by
  intro j
  induction j with
  | zero =>
    intro _
    have : wantW s k 0 = ckW s k := by unfold wantW putW; simp; rw [List.take_of_length_le (by rw [ckW_length]; exact hk)]
    rw [this]; rfl
  | succ j ih =>
    intro hj
    rw [putW_succ, addJ_snoc, ih (by omega)]
    have hn := allW_nodup (k := k) (m := j + 1) hs hk (by omega)
    rw [putW_succ, ← List.append_assoc] at hn
    have hnb : wbytes (s + 9000000 * (j + 1)) 104 ∉ ckW s k ++ putW s j := fun h => by
      have := (List.nodup_append.1 hn).2.2 _ h _ (List.mem_singleton_self _)
      exact this rfl
    have hl : (ckW s k ++ putW s j).length = k + j := by rw [List.length_append, ckW_length, putW_length]
    have hb : ([] : List UInt8) ≠ wbytes (s + 9000000 * (j + 1)) 104 := fun h => by
      have := congrArg List.length h
      rw [wbytes_length] at this; simp at this
    have e : wantW s k (j + 1) = (ckW s k ++ putW s j ++ [wbytes (s + 9000000 * (j + 1)) 104]).take 8 := by unfold wantW; rw [putW_succ, List.append_assoc]
    rw [e]
    unfold addOne
    by_cases h8 : k + j < 8
    · have e2 : wantW s k j = ckW s k ++ putW s j := List.take_of_length_le (by omega)
      rw [if_pos ⟨by show (wantW s k j).length < 8; rw [e2]; omega, by show _ ∉ wantW s k j; rw [e2]; exact hnb, hb⟩]
      rw [List.take_of_length_le (by rw [List.length_append, hl]; simp; omega)]
      show ({ jarW s k with ck := wantW s k j ++ [_] } : Jar) = _
      rw [e2]
    · have hle : (wantW s k j).length = 8 := by unfold wantW; rw [List.length_take, hl]; omega
      rw [if_neg (fun h => by have h1 : (wantW s k j).length < 8 := h.1; omega)]
      rw [List.take_append_of_le_length (by omega)]
      rfl
theorem addJ_more {s k m : Nat} (L : List (List UInt8)) (hL : ∀ b ∈ L, b ∈ putW s m) : addJ { jarW s k with ck := wantW s k m } L = { jarW s k with ck := wantW s k m } := by
  induction L with
  | nil => rfl
  | cons b L ih =>
    have hb := hL b (List.mem_cons_self ..)
    have e : addOne { jarW s k with ck := wantW s k m } b = { jarW s k with ck := wantW s k m } := by
      unfold addOne
      rw [if_neg]
      rintro ⟨h1, h2, _⟩
      have h1 : (wantW s k m).length < 8 := h1
      have e2 : wantW s k m = ckW s k ++ putW s m := by
        unfold wantW at h1 ⊢
        rw [List.length_take] at h1
        exact List.take_of_length_le (by omega)
      exact h2 (by show b ∈ wantW s k m; rw [e2]; exact List.mem_append_right _ hb)
    show addJ (addOne _ b) L = _
    rw [e]
    exact ih fun c hc => hL c (List.mem_cons_of_mem _ hc)
theorem putJ_W {s k m : Nat} (hs : s < 1024) (hk : k ≤ 8) (hm : m ≤ 11) : putJ (jarW s k) (putW s m ++ putW s m) = ({ jarW s k with ck := wantW s k m }, 0) := by
  unfold putJ
  have ha : allC (putW s m ++ putW s m) = true := by
    unfold allC
    rw [List.all_eq_true]
    intro b hb
    rw [decide_eq_true_iff]
    rcases List.mem_append.1 hb with h | h <;> exact putW_104 h
  rw [jarW_valid hs hk, ha]
  simp only [Bool.and_self, if_true]
  have e : addJ (jarW s k) (putW s m ++ putW s m) = addJ (addJ (jarW s k) (putW s m)) (putW s m) := by unfold addJ; rw [List.foldl_append]
  rw [e, addJ_put hs hk hm m (Nat.le_refl _), addJ_more _ fun b hb => hb]
theorem wantW_length {s k m : Nat} : (wantW s k m).length = min 8 (k + m) := by unfold wantW; rw [List.length_take, List.length_append, ckW_length, putW_length]
theorem wantW_nodup {s k m : Nat} (hs : s < 1024) (hk : k ≤ 8) (hm : m ≤ 11) : (wantW s k m).Nodup := (allW_nodup hs hk hm).sublist (List.take_sublist _ _)
theorem wantW_104 {s k m : Nat} {b : List UInt8} (h : b ∈ wantW s k m) : b.length = 104 := by
  rcases List.mem_append.1 (List.mem_of_mem_take h) with h | h
  · exact ckW_104 h
  · exact putW_104 h
/-- The jar behind i takings. -/
def jarI (s : Nat) (w : List (List UInt8)) (i : Nat) : Jar := ⟨upW s, dnW s, w.drop i, if i = 0 then [] else w.getD (i - 1) [], 1, i⟩
theorem jarI_valid {s k m i : Nat} (hs : s < 1024) (hk : k ≤ 8) (hm : m ≤ 11) (hi : i ≤ (wantW s k m).length) : validJ (jarI s (wantW s k m) i) = true := by
  have hn := wantW_nodup hs hk hm
  have hl := wantW_length (s := s) (k := k) (m := m)
  refine validJ_end ⟨⟨upW_length s, dnW_length s⟩, ?_, ?_, ?_, ?_, ?_, ?_⟩ (fun b hb => wantW_104 (List.mem_of_mem_drop hb)) (hn.sublist (List.drop_sublist _ _))
  · show ((wantW s k m).drop i).length ≤ 8; rw [List.length_drop]; omega
  · show (if i = 0 then [] else (wantW s k m).getD (i - 1) []).length = 0 ∨ _
    by_cases h0 : i = 0
    · rw [if_pos h0]; exact .inl rfl
    · right
      show (if i = 0 then [] else (wantW s k m).getD (i - 1) []).length = 104
      rw [if_neg h0, List.getD_eq_getElem?_getD, List.getElem?_eq_getElem (by omega)]
      exact wantW_104 (List.getElem_mem _)
  · show (if i = 0 then [] else (wantW s k m).getD (i - 1) []) ∉ (wantW s k m).drop i
    by_cases h0 : i = 0
    · rw [if_pos h0]; intro h; have := wantW_104 (List.mem_of_mem_drop h); simp at this
    · rw [if_neg h0, List.getD_eq_getElem?_getD, List.getElem?_eq_getElem (by omega)]
      intro h
      obtain ⟨j, hj, he⟩ := List.getElem_of_mem h
      rw [List.length_drop] at hj
      rw [List.getElem_drop] at he
      have := List.pairwise_iff_getElem.1 hn (i - 1) (i + j) (by omega) (by omega) (by omega)
      exact this he.symm
  · show (0 : Int) ≤ 1; omega
  · show (0 : Int) ≤ (i : Int); omega
  · show (i : Int) ≤ 1099511627776; omega
theorem jarI_zero (s k m : Nat) : jarI s (wantW s k m) 0 = ({ jarW s k with ck := wantW s k m } : Jar) := rfl
theorem takeJ_I {s k m i : Nat} (hs : s < 1024) (hk : k ≤ 8) (hm : m ≤ 11) (hi : i < (wantW s k m).length) : takeJ (jarI s (wantW s k m) i) = ((jarI s (wantW s k m) (i + 1), (wantW s k m)[i]), 0) := by
  have hl := wantW_length (s := s) (k := k) (m := m)
  have hd : (wantW s k m).drop i = (wantW s k m)[i] :: (wantW s k m).drop (i + 1) := List.drop_eq_getElem_cons hi
  unfold takeJ
  have hc : (jarI s (wantW s k m) i).ck = (wantW s k m).drop i := rfl
  have hsn : (jarI s (wantW s k m) i).sent = (i : Int) := rfl
  rw [if_pos (jarI_valid hs hk hm (by omega)), hc, hsn, if_neg (by rw [List.length_drop]; omega), if_neg (by omega), hd]
  have hg : (wantW s k m).getD i [] = (wantW s k m)[i] := by rw [List.getD_eq_getElem?_getD, List.getElem?_eq_getElem hi]; rfl
  show (((⟨upW s, dnW s, (wantW s k m).drop (i + 1), (wantW s k m)[i], 1, (i : Int) + 1⟩ : Jar), (wantW s k m)[i]), (0 : Int)) = _
  unfold jarI
  rw [if_neg (by omega), Nat.add_sub_cancel, hg]
  rfl
theorem takeJ_end {s k m : Nat} (hs : s < 1024) (hk : k ≤ 8) (hm : m ≤ 11) : takeJ (jarI s (wantW s k m) (wantW s k m).length) = ((zeroJ, []), 10) := by
  unfold takeJ
  have hc : (jarI s (wantW s k m) (wantW s k m).length).ck = (wantW s k m).drop (wantW s k m).length := rfl
  rw [if_pos (jarI_valid hs hk hm (Nat.le_refl _)), hc, if_pos (by simp)]
end Go.Jar

/- Layer 22: what Put and Take hand back for the jars of JarKeepsOrder. -/
namespace Go.Jar
open Go.RowKit Go.Sec Go.Oct Go.Sha
theorem ownB_lt {w : World} {base n c : Nat} {a : Option Addr} {L : List (List UInt8)} (h : OwnB w base a n c L) (g : Nat) (hg : (Value.slice a n c).ownBlock = some g) : g < w.heap.size := by
  obtain ⟨_, xs, h2, _⟩ := h
  rcases h2.2 with ⟨h1, _⟩ | ⟨g', cap, cur, hv, hb, hh, _⟩
  · rw [h1] at hg; cases hg
  · rw [hv] at hg
    injection hg with hg
    subst hg
    exact (Array.getElem?_eq_some_iff.1 hh).1
theorem ownT_ge {w : World} {base n c : Nat} {a : Option Addr} {L : List (List UInt8)} (h : OwnT w base a n c L) (g : Nat) (hg : (Value.slice a n c).ownBlock = some g) : base ≤ g := by
  obtain ⟨_, xs, h2, _⟩ := h
  rcases h2.2 with ⟨h1, _⟩ | ⟨g', cap, cur, hv, hb, hh, _⟩
  · rw [h1] at hg; cases hg
  · rw [hv] at hg
    injection hg with hg
    subst hg
    exact hb
/-- The parts of a jar in memory. -/
structure JarN (J : Jar) (nc nl : Nat) (b1 b2 b3 b4 : Option Addr) (d1 d2 d3 d4 : Nat) (w : World) : Prop where
  up : Sl w b1 32 J.up
  k1 : 32 ≤ d1
  dn : Sl w b2 32 J.dn
  k2 : 32 ≤ d2
  ck : Bsc w b3 nc J.ck
  k3 : nc ≤ d3
  ty : Typ3 w b3
  la : Sl w b4 nl J.last
  k4 : nl ≤ d4
section
variable {J : Jar} {nc nl d1 d2 d3 d4 : Nat} {b1 b2 b3 b4 : Option Addr} {w w' : World}
theorem JarN.ext (h : JarN J nc nl b1 b2 b3 b4 d1 d2 d3 d4 w) (hx : Ext w w') : JarN J nc nl b1 b2 b3 b4 d1 d2 d3 d4 w' :=
  ⟨h.up.ext hx, h.k1, h.dn.ext hx, h.k2, h.ck.ext hx, h.k3, h.ty.ext hx, h.la.ext hx, h.k4⟩
theorem JarN.mut {g : Nat} {t : TypeId} {vs : List Value} (h : JarN J nc nl b1 b2 b3 b4 d1 d2 d3 d4 w) (hB : Blk w g t vs) (ht : t ≠ 23) (hv : ∀ v ∈ vs, ∀ x, v ≠ .int .u8 x) (hM : Mut g w w') : JarN J nc nl b1 b2 b3 b4 d1 d2 d3 d4 w' :=
  ⟨h.up.mut hB hv hM, h.k1, h.dn.mut hB hv hM, h.k2, h.ck.mutNe (h.ty.ne hB ht) hB hv hM, h.k3, h.ty.mut hB ht hM, h.la.mut hB hv hM, h.k4⟩
end
end Go.Jar
namespace Go.Proofs.Ytmmbcgbadaojeaa
open Go.RowKit Go.Sec Go.Oct Go.Jar Go.Pkt Go.Sha BigFrame
/-- What a putting or a taking hands back: a jar, and more. -/
def PutN (s : Nat) (W : List (List UInt8)) (q : Nat) (w : World) (e : Ending) (w' : World) : Prop := ∃ b1 d1 b2 d2 b3 d3 b4 d4, e = .returned (.tuple #[.agg #[.slice b1 32 d1, .slice b2 32 d2, .slice b3 q d3, .slice b4 0 d4, .int .i64 1, .int .i64 0], .int .i64 0]) ∧
  JarN (jarI s W 0) q 0 b1 b2 b3 b4 d1 d2 d3 d4 w' ∧ Ext w w'
def TakeI (s : Nat) (W : List (List UInt8)) (q i : Nat) (C : List UInt8) (w : World) (e : Ending) (w' : World) : Prop := ∃ b1 d1 b2 d2 b3 d3 b4 d4 b5 d5, e = .returned (.tuple #[.agg #[.slice b1 32 d1, .slice b2 32 d2, .slice b3 (q - (i + 1)) d3, .slice b4 104 d4, .int .i64 1, .int .i64 ((i + 1 : Nat) : Int)], .slice b5 104 d5, .int .i64 0]) ∧
  JarN (jarI s W (i + 1)) (q - (i + 1)) 104 b1 b2 b3 b4 d1 d2 d3 d4 w' ∧ Sl w' b5 104 C ∧ 104 ≤ d5 ∧ (jarI s W (i + 1)).last = C ∧ Ext w w'
def TakeX (w : World) (e : Ending) (w' : World) : Prop := ∃ b1 n1 d1 b2 n2 d2 b3 n3 d3 b4 n4 d4 b5 n5 d5, e = .returned (.tuple #[.agg #[.slice b1 n1 d1, .slice b2 n2 d2, .slice b3 n3 d3, .slice b4 n4 d4, .int .i64 0, .int .i64 0], .slice b5 n5 d5, .int .i64 10]) ∧ Ext w w'
theorem jarI_up (s : Nat) (W : List (List UInt8)) (i : Nat) : (jarI s W i).up.length = 32 := upW_length s
theorem jarI_dn (s : Nat) (W : List (List UInt8)) (i : Nat) : (jarI s W i).dn.length = 32 := dnW_length s
theorem jarI_last {s k m i : Nat} (hi : i < (wantW s k m).length) : (jarI s (wantW s k m) (i + 1)).last = (wantW s k m)[i] := by
  show (if i + 1 = 0 then [] else (wantW s k m).getD (i + 1 - 1) []) = _
  rw [if_neg (by omega), Nat.add_sub_cancel, List.getD_eq_getElem?_getD, List.getElem?_eq_getElem hi]
  rfl
theorem put_N {s k m q : Nat} (hs : s < 1000) (hk : k < 9) (hm : m < 12) (hq : (wantW s k m).length = q) (a1 a2 a3 a : Option Addr) (d1 d2 d3 n c : Nat) (w : World) (h1 : Sl w a1 32 (upW s)) (h2 : Sl w a2 32 (dnW s)) (h3 : Bsc w a3 k (ckW s k)) (hc : k ≤ d3) (hL : Bsc w a n (putW s m ++ putW s m)) :
    Calls Try.prog 14 #[.agg #[.slice a1 32 d1, .slice a2 32 d2, .slice a3 k d3, .slice none 0 0, .int .i64 1, .int .i64 0], .slice a n c] w (PutN s (wantW s k m) q w) := by
  subst hq
  have hl := hL.len
  rw [List.length_append, putW_length] at hl
  have := jput_any a1 a2 a3 none a 32 d1 32 d2 k d3 0 0 n c (jarW s k) (putW s m ++ putW s m) w h1 (by omega) h2 (by omega) h3 hc (by omega) (fun y hy => by have := ckW_104 hy; omega) (Sl.nil _ _) (by omega) hL (by omega) (fun y hy => by rcases List.mem_append.1 hy with h | h <;> (have := putW_104 h; omega))
  rw [putJ_W (by omega) (by omega) (by omega), ← jarI_zero] at this
  refine this.mono ?_
  rintro e w' ⟨b1, m1, e1, b2, m2, e2, b3, m3, e3, b4, m4, e4, rfl, g1, g2, g3, g4, g5, g6, hx⟩
  have l1 : m1 = 32 := by rw [← g1.1]; exact jarI_up _ _ _
  have l2 : m2 = 32 := by rw [← g2.1]; exact jarI_dn _ _ _
  have l3 : m3 = (wantW s k m).length := by rw [← g3.len]; rfl
  have l4 : m4 = 0 := by rw [← g6.1]; rfl
  subst l1 l2 l3 l4
  exact ⟨b1, e1, b2, e2, b3, e3, b4, e4, rfl, ⟨g1.sl, g1.le.1, g2.sl, g2.le.1, g3, g4, g5, g6.sl, g6.le.1⟩, hx⟩
theorem take_I {s k m i nl q : Nat} (hs : s < 1000) (hk : k < 9) (hm : m < 12) (hq : (wantW s k m).length = q) {C : List UInt8} (hC : (wantW s k m)[i]? = some C) (hnl : nl ≤ 104) (b1 b2 b3 b4 : Option Addr) (d1 d2 d3 d4 : Nat) (w : World) (h : JarN (jarI s (wantW s k m) i) (q - i) nl b1 b2 b3 b4 d1 d2 d3 d4 w) :
    Calls Try.prog 15 #[.agg #[.slice b1 32 d1, .slice b2 32 d2, .slice b3 (q - i) d3, .slice b4 nl d4, .int .i64 1, .int .i64 (i : Int)]] w (TakeI s (wantW s k m) q i C w) := by
  subst hq
  obtain ⟨hi, rfl⟩ := List.getElem?_eq_some_iff.1 hC
  have hl := h.ck.len
  have hl2 := wantW_length (s := s) (k := k) (m := m)
  have := jtake_any b1 b2 b3 b4 32 d1 32 d2 ((wantW s k m).length - i) d3 nl d4 (jarI s (wantW s k m) i) w h.up (by omega) h.dn (by omega) h.ck h.k3 (by omega) (fun y hy => by have := wantW_104 (List.mem_of_mem_drop hy); omega) h.la (by omega) (.inl (Int.natCast_nonneg i))
  rw [takeJ_I (by omega) (by omega) (by omega) hi] at this
  refine this.mono ?_
  rintro e w' ⟨c1, m1, e1, c2, m2, e2, c3, m3, e3, c4, m4, e4, c5, m5, e5, rfl, g1, g2, g3, g4, g5, g6, g7, -, ht, hx⟩
  have l1 : m1 = 32 := by rw [← g1.1]; exact jarI_up _ _ _
  have l2 : m2 = 32 := by rw [← g2.1]; exact jarI_dn _ _ _
  have l3 : m3 = (wantW s k m).length - (i + 1) := by rw [← g3.len]; exact List.length_drop
  have l5 : m5 = 104 := by rw [← g7.1]; exact wantW_104 (List.getElem_mem hi)
  have l4 : m4 = 104 := by rw [← g5.len]; show (jarI s (wantW s k m) (i + 1)).last.length = 104; rw [jarI_last hi]; exact wantW_104 (List.getElem_mem hi)
  subst l1 l2 l3 l4 l5
  exact ⟨c1, e1, c2, e2, c3, e3, c4, e4, c5, e5, rfl, ⟨g1.sl, g1.le.1, g2.sl, g2.le.1, g3, g4, ht, g5, g6⟩, g7.sl, g7.le.1, jarI_last hi, hx⟩
theorem take_X {s k m nl q : Nat} (hs : s < 1000) (hk : k < 9) (hm : m < 12) (hq : (wantW s k m).length = q) (hnl : nl ≤ 104) (b1 b2 b3 b4 : Option Addr) (d1 d2 d3 d4 : Nat) (w : World) (h : JarN (jarI s (wantW s k m) q) 0 nl b1 b2 b3 b4 d1 d2 d3 d4 w) :
    Calls Try.prog 15 #[.agg #[.slice b1 32 d1, .slice b2 32 d2, .slice b3 0 d3, .slice b4 nl d4, .int .i64 1, .int .i64 (q : Int)]] w (TakeX w) := by
  subst hq
  have := jtake_any b1 b2 b3 b4 32 d1 32 d2 0 d3 nl d4 (jarI s (wantW s k m) (wantW s k m).length) w h.up (by omega) h.dn (by omega) h.ck h.k3 (by omega) (fun y hy => by have := wantW_104 (List.mem_of_mem_drop hy); omega) h.la (by omega) (.inl (Int.natCast_nonneg _))
  rw [takeJ_end (by omega) (by omega) (by omega)] at this
  refine this.mono ?_
  rintro e w' ⟨c1, m1, e1, c2, m2, e2, c3, m3, e3, c4, m4, e4, c5, m5, e5, rfl, -, -, -, -, -, -, -, -, -, hx⟩
  exact ⟨c1, m1, e1, c2, m2, e2, c3, m3, e3, c4, m4, e4, c5, m5, e5, rfl, hx⟩
end Go.Proofs.Ytmmbcgbadaojeaa

/- Layer 22: the law JarKeepsOrder (under way). -/
namespace Go.Proofs.Ytmmbcgbadaojeaa
open Go.RowKit Go.Sec Go.Oct Go.Jar Go.Pkt Go.Sha BigFrame

set_option maxRecDepth 100000 in
set_option maxHeartbeats 1000000 in
theorem jarKeepsOrder_walk (seed n mm : Int) (w : World) :
    Calls Try.prog 3 #[.int .i64 seed, .int .i64 n, .int .i64 mm] w fun e w' => e = .returned (.bool true) ∧ Ext w w' := by
  obtain ⟨s, hs, es⟩ := nmod seed 1000 (by omega)
  have es : seed % 1000 = (s : Int) := es
  obtain ⟨k, hk, ek⟩ := nmod n 9 (by omega)
  have ek : n % 9 = (k : Int) := ek
  obtain ⟨m, hm, em⟩ := nmod mm 12 (by omega)
  have em : mm % 12 = (m : Int) := em
  have hw1 := fun W => within_any seed 1000 W (by omega) (by omega)
  have hw2 := fun W => within_any mm 12 W (by omega) (by omega)
  rw [es] at hw1
  rw [em] at hw2
  have hwj : ∀ W, Calls Try.prog 12 #[.int .i64 (s : Int), .int .i64 n] W (WJarO s k W) := fun W => wjar_any s n k rfl W (by omega) ek
  clear es ek em
  go_enter Try.func3, Try.ntmps3
  go_wp2_with fail
  (with_reducible refine (hw1 _).mono ?_); rintro e w1 ⟨rfl, hx1⟩
  go_wp2_with fail
  (with_reducible refine (hwj _).mono ?_); rintro e w2 ⟨a1, d1, a2, d2, b3, d3, rfl, h1, k1, h2, k2, h3, k3, hx2⟩
  have hE2 := hx1.trans hx2
  clear hw1 hwj hx1 hx2
  go_wp2_with (first
    | ((refine wpList_alloc_store (RJ6) rfl rfl _ _ rfl rfl rfl rfl (by simp [Act.put]) ([.slice a1 32 d1, .slice a2 32 d2, .slice b3 k d3, .slice none 0 0, .int .i64 1, .int .i64 0]) rfl (by simp) (rfl) ((by simp; repeat' (first | rfl | constructor))) ?_; intro x hz _); haveI := hz.blt; have f2 := hz.cell? 2 rfl; have h3x := h3.ext (show Ext w2 (w2.ext x) from Ext.of_ext _ _))
    | (at_builtin; refine wpList_append_bs V8 rfl _ _ rfl (w2.ext x).heap.size none 0 0 [] rfl b3 k d3 (ckW s k) rfl (OwnB.nil _ _) h3x.rdB (by omega) (Nat.le_refl _) ?_; intro wa wc w4 hO4 hg4 hb4)
    | fail)
  have hxx : Ext w2 (w2.ext x) := Ext.of_ext _ _
  have hEv := hE2.trans hxx
  have h1 := h1.ext hxx
  have h2 := h2.ext hxx
  have h3 := h3x
  have hgw : w.heap.size ≤ w2.heap.size := hE2.size
  have hgB : w2.heap.size < (w2.ext x).heap.size := hz.lt
  obtain ⟨g0, hg0⟩ : ∃ g, g = w2.heap.size := ⟨_, rfl⟩
  rw [← hg0] at hz hgw hgB ⊢
  clear hxx hE2 h3x f2 hg4 hg0
  generalize w2.ext x = V1 at *
  have hV4 : Ext V1 w4 := hb4
  rw [List.nil_append, Nat.zero_add] at hO4
  have hO4w := hO4
  clear hb4
  obtain ⟨B2, hB2⟩ : ∃ b, b = w4.heap.size := ⟨_, rfl⟩
  go_loopw [9, 10] (fun v9 v10 wr => ∃ (i : Nat) (la : Option Addr) (lc : Nat), i ≤ m ∧ v9 = .slice la i lc ∧ v10 = .int .i64 i ∧ OwnT wr B2 la i lc (putW s i) ∧ Ext w4 wr) (fun _ v10 _ => m - (intOf v10).toNat)
  case atStart => exact ⟨0, none, 0, by omega, rfl, rfl, OwnT.nil _ _, Below.refl _ _⟩
  case round =>
    obtain ⟨i, la, lc, hi, rfl, rfl, hL, hX⟩ := hrel
    go_wp2_with fail
    (with_reducible refine (hw2 _).mono ?_)
    rintro e w5 ⟨rfl, hx5⟩
    have hL := hL.ext hx5
    have hX := hX.trans hx5
    clear hx5
    by_cases hlt : i < m
    · have i1 : (i : Int) < (m : Int) := by omega
      have hmul : (9000000 : Int) * ((i : Int) + 1) ≤ 108000000 := by omega
      have hsI : (s : Int) ≤ 1000000 := by omega
      have hi9 : (i : Int) ≤ 12 := by omega
      have hby := fun V => wbytes_any (s + 9000000 * (i + 1)) 104 (show (s : Int) + 9000000 * ((i : Int) + 1) = ((s + 9000000 * (i + 1) : Nat) : Int) by omega) (show (104 : Int) = ((104 : Nat) : Int) from rfl) V (by omega) (by omega)
      have hck := Lib.hid (putW_succ s i)
      generalize wbytes (s + 9000000 * (i + 1)) 104 = X at *
      go_wp2_with fail
      (with_reducible refine (hby _).mono ?_)
      rintro e w6 ⟨a6, c6, rfl, hO6, hx6⟩
      have hL := hL.ext hx6
      have hX := hX.trans hx6
      clear hx6 hby
      go_wp2_with (first
        | (at_builtin; refine wpList_append_oneT V8 rfl _ _ rfl B2 la i lc (putW s i) rfl w6.heap.size rfl (hL.ext (Ext.of_alloc _ _)) a6 104 c6 X (Blk.new w6 #[.slice a6 104 c6] 23).rd (hO6.ext (Ext.of_alloc _ _)).sl hO6.le.1 (Own.inBlk (hO6.ext (Ext.of_alloc _ _))) (by omega) (by have := hX.size; have := (Ext.of_alloc w6 (.cells #[.slice a6 104 c6] 23)).size; omega) ?_; intro sa sc w7 hL7 hg7 hb7)
        | fail)
      go_roundw
      case rel => exact ⟨i + 1, sa, sc, by omega, rfl, by go_num, by rw [hck.out]; exact hL7, (show Ext w4 w7 from Below.trans (hX.trans (Ext.of_alloc _ _)) (hb7.mono (show w4.heap.size ≤ B2 by omega)))⟩
      case measure => simp [intOf]; omega
    · obtain rfl : i = m := by omega
      have i1 : ¬ (i : Int) < (i : Int) := by omega
      have hO4 := hO4.ext hX
      have hsz := hX.size
      have hV5 := hV4.trans hX
      have hv5 := hV5.size
      have hlb := fun g hg => ownB_lt hO4w g hg
      have hcut := hO4.le
      obtain ⟨q, hq⟩ : ∃ q : Nat, q = min 8 (k + i) := ⟨_, rfl⟩
      have hmin : min ((k : Int) + (i : Int)) 8 = (q : Int) := by omega
      have hq2 : (wantW s k i).length = q := by rw [wantW_length]; exact hq.symm
      have hq8 : q ≤ 8 := by omega
      have hqk : q ≤ k + i := by omega
      clear hq
      go_wp2_with (first
        | (at_builtin; refine wpList_append_bs V8 rfl _ _ rfl V1.heap.size wa k wc (ckW s k) rfl la i lc (putW s i) rfl hO4 (hL.rdB _) (by omega) (by omega) ?_; intro sa sc w7 hO7 hg7 hb7; have hle7 := hO7.le; have hqc : (q : Int) ≤ (sc : Int) := by omega)
        | fail)
      have hL := hL.grown hO4 hg7 (fun g hg hg' => by have := ownT_ge hL g hg; have := hlb g hg'; omega)
      have hBw := hO7.bsc.take q hqk
      have hty := hO7.typ3
      have hV7 : Ext V1 w7 := Below.trans hV5 hb7
      have hJ := hz.extB hV7
      have h1 := h1.ext hV7
      have h2 := h2.ext hV7
      have h3 := h3.ext hV7
      have hE := hEv.trans hV7
      have hpu := fun a n c W H1 H2 H3 H4 => put_N hs hk hm hq2 a1 a2 b3 a d1 d2 d3 n c W H1 H2 H3 k3 H4
      have hWW : List.take q (ckW s k ++ putW s i) = wantW s k i := by
        unfold wantW at hq2 ⊢
        have h5 : (ckW s k ++ putW s i).length = k + i := by rw [List.length_append, ckW_length, putW_length]
        rw [List.length_take, h5] at hq2
        rw [← hq2, List.take_eq_take_iff]
        omega
      rw [hWW] at hBw
      clear hV7 hV5 hV4 hX hO7 hg7 hb7 hO4 hO4w hlb hz hEv hWW
      have hSE : ∀ w', Ext (w7) w' → (fun _ => True) w' := (fun _ _ => trivial); have hExt0 : Ext (w7) (w7).drew := Ext.drew (Ext.refl _); refine wp_region_held_drew (S := fun _ => True) (by kernel_rfl) (hSE _ hExt0) (fun hHeld => ?_)
      refine wpAnyH_take (i := 2) (v := ?v78) rfl (by kernel_rfl) (by kernel_rfl) (by kernel_rfl) (fun _ _ _ h => h) (Or.inl ⟨by rfl, ?hy78⟩) hHeld ?_; (case hy78 => (intro w' hx; simp [go_sem, execOp, *]; (try simp (disch := omega) only [Go.IntWalk.i64_in, Go.IntWalk.rem_in, Go.IntWalk.wrap64_in]); rfl)); (try simp only [List.getElem_toArray, List.getElem_cons_succ, List.getElem_cons_zero, Act.put, List.setIfInBounds_toArray, List.set_cons_succ, List.set_cons_zero])
      refine wpAnyH_take (i := 4) (v := ?v79) rfl (by kernel_rfl) (by kernel_rfl) (by kernel_rfl) (fun _ _ _ h => h) (Or.inl ⟨by rfl, ?hy79⟩) hHeld ?_; (case hy79 => (intro w' hx; simp [go_sem, execOp, *]; (try simp (disch := omega) only [Go.IntWalk.i64_in, Go.IntWalk.rem_in, Go.IntWalk.wrap64_in]); rfl)); (try simp only [List.getElem_toArray, List.getElem_cons_succ, List.getElem_cons_zero, Act.put, List.setIfInBounds_toArray, List.set_cons_succ, List.set_cons_zero])
      have hxd : Ext w7 w7.drew := hExt0
      have hxA : Ext w7 (w7.drew.alloc (.cells #[] 23)) := hxd.trans (Ext.of_alloc _ _)
      have hRl := hL.rdB w7.drew.heap.size
      obtain ⟨sa3, sc3, w3, hrun3, hO3, -, hb3⟩ := run_append_bs V8 (w7.drew.alloc (.cells #[] 23)) 26 w7.drew.heap.size _ 0 0 [] (OwnB.empty w7.drew) la i lc (putW s i) (hRl.ext hxA) (by omega) (Ext.of_alloc _ _).size
      have hx3 : Ext w7 w3 := Below.trans hxA (hb3.mono hxd.size)
      obtain ⟨sa5, sc5, w5', hrun5, hO5, -, hb5⟩ := run_append_bs V8 w3 26 w7.drew.heap.size sa3 (0 + i) sc3 ([] ++ putW s i) hO3 la i lc (putW s i) (hRl.ext hx3) (by omega) (Nat.le_trans (Ext.of_alloc _ _).size (Nat.le_trans (Nat.le_refl _) hb3.size))
      have hx5 : Ext w7 w5' := Below.trans hx3 (hb5.mono hxd.size)
      rw [Nat.zero_add] at hrun3 hrun5 hO5
      rw [List.nil_append] at hO5
      have hB5 := hO5.bsc
      refine R5.relist (l2 := #[false, false, true, false, true, false, false, false, false, false, false, false]) (by kernel_rfl) ?_
      apply R5.cutG
      · intro key
        refine R5.any_pair 0 1 (by kernel_rfl) rfl rfl rfl rfl (R5.gives_load RJ6 (.tmp 7) rfl g0 0 rfl [.slice a1 32 d1, .slice a2 32 d2, .slice b3 k d3, .slice none 0 0, .int .i64 1, .int .i64 0] (hJ.extB hxd).rd rfl ⟨trivial, ?_⟩) (R5.gives_empty V8 rfl ⟨trivial, ?_⟩)
        · (try simp only [List.getElem_toArray, List.getElem_cons_succ, List.getElem_cons_zero, Act.put, List.setIfInBounds_toArray, List.set_cons_succ, List.set_cons_zero])
          refine R5.any_only 1 (by kernel_rfl) rfl rfl (R5.gives_empty V8 rfl ⟨trivial, ?_⟩); (try simp only [List.getElem_toArray, List.getElem_cons_succ, List.getElem_cons_zero, Act.put, List.setIfInBounds_toArray, List.set_cons_succ, List.set_cons_zero])
          refine R5.any_only 3 (by kernel_rfl) rfl rfl (R5.gives_append rfl rfl rfl hrun3 ⟨trivial, ?_⟩); (try simp only [List.getElem_toArray, List.getElem_cons_succ, List.getElem_cons_zero, Act.put, List.setIfInBounds_toArray, List.set_cons_succ, List.set_cons_zero])
          refine R5.any_only 5 (by kernel_rfl) rfl rfl (R5.gives_append rfl rfl rfl hrun5 ⟨trivial, ?_⟩); (try simp only [List.getElem_toArray, List.getElem_cons_succ, List.getElem_cons_zero, Act.put, List.setIfInBounds_toArray, List.set_cons_succ, List.set_cons_zero])
          refine R5.relist (l2 := #[true, true, true, true, true, true, false, false, false, false, false, false]) (by kernel_rfl) ?_
          exact key
        · (try simp only [List.getElem_toArray, List.getElem_cons_succ, List.getElem_cons_zero, Act.put, List.setIfInBounds_toArray, List.set_cons_succ, List.set_cons_zero])
          refine R5.any_pair 0 3 (by kernel_rfl) rfl rfl rfl rfl (R5.gives_load RJ6 (.tmp 7) rfl g0 0 rfl [.slice a1 32 d1, .slice a2 32 d2, .slice b3 k d3, .slice none 0 0, .int .i64 1, .int .i64 0] (hJ.extB hxA).rd rfl ⟨trivial, ?_⟩) (R5.gives_append rfl rfl rfl hrun3 ⟨trivial, ?_⟩)
          · (try simp only [List.getElem_toArray, List.getElem_cons_succ, List.getElem_cons_zero, Act.put, List.setIfInBounds_toArray, List.set_cons_succ, List.set_cons_zero])
            refine R5.any_only 3 (by kernel_rfl) rfl rfl (R5.gives_append rfl rfl rfl hrun3 ⟨trivial, ?_⟩); (try simp only [List.getElem_toArray, List.getElem_cons_succ, List.getElem_cons_zero, Act.put, List.setIfInBounds_toArray, List.set_cons_succ, List.set_cons_zero])
            refine R5.any_only 5 (by kernel_rfl) rfl rfl (R5.gives_append rfl rfl rfl hrun5 ⟨trivial, ?_⟩); (try simp only [List.getElem_toArray, List.getElem_cons_succ, List.getElem_cons_zero, Act.put, List.setIfInBounds_toArray, List.set_cons_succ, List.set_cons_zero])
            refine R5.relist (l2 := #[true, true, true, true, true, true, false, false, false, false, false, false]) (by kernel_rfl) ?_
            exact key
          · (try simp only [List.getElem_toArray, List.getElem_cons_succ, List.getElem_cons_zero, Act.put, List.setIfInBounds_toArray, List.set_cons_succ, List.set_cons_zero])
            refine R5.any_pair 0 5 (by kernel_rfl) rfl rfl rfl rfl (R5.gives_load RJ6 (.tmp 7) rfl g0 0 rfl [.slice a1 32 d1, .slice a2 32 d2, .slice b3 k d3, .slice none 0 0, .int .i64 1, .int .i64 0] (hJ.extB hx3).rd rfl ⟨trivial, ?_⟩) (R5.gives_append rfl rfl rfl hrun5 ⟨trivial, ?_⟩)
            · (try simp only [List.getElem_toArray, List.getElem_cons_succ, List.getElem_cons_zero, Act.put, List.setIfInBounds_toArray, List.set_cons_succ, List.set_cons_zero])
              refine R5.any_only 5 (by kernel_rfl) rfl rfl (R5.gives_append rfl rfl rfl hrun5 ⟨trivial, ?_⟩); (try simp only [List.getElem_toArray, List.getElem_cons_succ, List.getElem_cons_zero, Act.put, List.setIfInBounds_toArray, List.set_cons_succ, List.set_cons_zero])
              refine R5.relist (l2 := #[true, true, true, true, true, true, false, false, false, false, false, false]) (by kernel_rfl) ?_
              exact key
            · (try simp only [List.getElem_toArray, List.getElem_cons_succ, List.getElem_cons_zero, Act.put, List.setIfInBounds_toArray, List.set_cons_succ, List.set_cons_zero])
              refine R5.any_only 0 (by kernel_rfl) rfl rfl (R5.gives_load RJ6 (.tmp 7) rfl g0 0 rfl [.slice a1 32 d1, .slice a2 32 d2, .slice b3 k d3, .slice none 0 0, .int .i64 1, .int .i64 0] (hJ.extB hx5).rd rfl ⟨trivial, ?_⟩); (try simp only [List.getElem_toArray, List.getElem_cons_succ, List.getElem_cons_zero, Act.put, List.setIfInBounds_toArray, List.set_cons_succ, List.set_cons_zero])
              refine R5.relist (l2 := #[true, true, true, true, true, true, false, false, false, false, false, false]) (by kernel_rfl) ?_
              exact key
      have hJ := hJ.extB hx5
      have hBw := hBw.ext hx5
      have hty := hty.ext hx5
      have hE := hE.trans hx5
      have h1 := h1.ext hx5
      have h2 := h2.ext hx5
      have h3 := h3.ext hx5
      clear hrun3 hrun5 hO3 hO5 hb3 hb5 hx3 hx5 hxA hxd hRl hL hExt0 hSE
      (refine R5.any_only 6 (by kernel_rfl) rfl rfl ?_; unfold gives; simp [go_sem, execOp])
      (with_reducible refine (hpu _ _ _ _ h1 h2 h3 hB5).mono ?_)
      rintro e w8 ⟨c1, e1, c2, e2, c3, e3, c4, e4, rfl, hN, hx8⟩
      have hJ := hJ.extB hx8
      have hBw := hBw.ext hx8
      have hty := hty.ext hx8
      have hE := hE.trans hx8
      clear hx8 hpu h1 h2 h3 hB5 k1 k2 k3
      refine ⟨_, rfl, ?_⟩
      (try simp only [List.getElem_toArray, List.getElem_cons_succ, List.getElem_cons_zero, Act.put, List.setIfInBounds_toArray, List.set_cons_succ, List.set_cons_zero])
      refine wpAnyH_take (i := 7) (v := ?v81) rfl (by kernel_rfl) (by kernel_rfl) (by kernel_rfl) (fun _ _ _ h => h) (Or.inl ⟨by rfl, ?hy81⟩) hHeld ?_; (case hy81 => (intro w' hx; simp [go_sem, execOp, *]; (try simp (disch := omega) only [Go.IntWalk.i64_in, Go.IntWalk.rem_in, Go.IntWalk.wrap64_in]); rfl)); (try simp only [List.getElem_toArray, List.getElem_cons_succ, List.getElem_cons_zero, Act.put, List.setIfInBounds_toArray, List.set_cons_succ, List.set_cons_zero])
      refine wpAnyH_take (i := 8) (v := ?v82) rfl (by kernel_rfl) (by kernel_rfl) (by kernel_rfl) (fun _ _ _ h => h) (Or.inl ⟨by rfl, ?hy82⟩) hHeld ?_; (case hy82 => (intro w' hx; simp [go_sem, execOp, *]; (try simp (disch := omega) only [Go.IntWalk.i64_in, Go.IntWalk.rem_in, Go.IntWalk.wrap64_in]); rfl)); (try simp only [List.getElem_toArray, List.getElem_cons_succ, List.getElem_cons_zero, Act.put, List.setIfInBounds_toArray, List.set_cons_succ, List.set_cons_zero])
      refine wpAnyH_take (i := 9) (v := ?v83) rfl (by kernel_rfl) (by kernel_rfl) (by kernel_rfl) (fun _ _ _ h => h) (Or.inl ⟨by rfl, ?hy83⟩) hHeld ?_; (case hy83 => (intro w' hx; simp [go_sem, execOp, *]; (try simp (disch := omega) only [Go.IntWalk.i64_in, Go.IntWalk.rem_in, Go.IntWalk.wrap64_in]); rfl)); (try simp only [List.getElem_toArray, List.getElem_cons_succ, List.getElem_cons_zero, Act.put, List.setIfInBounds_toArray, List.set_cons_succ, List.set_cons_zero])
      refine R5.only_store RJ6 10 (by kernel_rfl) rfl rfl (.tmp 7) (.tmp 59) rfl g0 0 rfl [.slice c1 32 e1, .slice c2 32 e2, .slice c3 q e3, .slice c4 0 e4, .int .i64 1, .int .i64 0] rfl 28 [.slice a1 32 d1, .slice a2 32 d2, .slice b3 k d3, .slice none 0 0, .int .i64 1, .int .i64 0] hJ rfl (by simp) (by simp; repeat' (first | rfl | constructor)) ?_
      intro w9 hJ9 hM9
      have hJ9 : Blk w9 g0 28 [.slice c1 32 e1, .slice c2 32 e2, .slice c3 q e3, .slice c4 0 e4, .int .i64 1, .int .i64 0] := hJ9
      refine ⟨trivial, ?_⟩
      (try simp only [List.getElem_toArray, List.getElem_cons_succ, List.getElem_cons_zero, Act.put, List.setIfInBounds_toArray, List.set_cons_succ, List.set_cons_zero])
      (refine R5.any_only 11 (by kernel_rfl) rfl rfl ?_; unfold gives; simp [go_sem, execOp])
      refine wpAnyH_done (by kernel_rfl) ?_ _
      have hN := hN.mut hJ (by decide) (by simp) hM9
      have hBw := hBw.mutNe (hty.ne hJ (by decide)) hJ (by simp) hM9
      have hty := hty.mut hJ (by decide) hM9
      have hE : Ext w w9 := Below.trans hE (hM9.below hgw hE.size)
      have htk := fun (j nl : Nat) (C : List UInt8) b1 b2 b3 b4 d1 d2 d3 d4 W hC hnl h => take_I (i := j) (nl := nl) hs hk hm hq2 (C := C) hC hnl b1 b2 b3 b4 d1 d2 d3 d4 W h
      have htx := fun nl b1 b2 b3 b4 d1 d2 d3 d4 W hnl h => take_X (nl := nl) hs hk hm hq2 hnl b1 b2 b3 b4 d1 d2 d3 d4 W h
      have hsm : ∀ (a b : Option Addr) (c d : Nat) (C : List UInt8) W, Sl W a 104 C → Sl W b 104 C → Calls Try.prog 16 #[.slice a 104 c, .slice b 104 d] W fun e w' => e = .returned (.bool true) ∧ Ext W w' := fun a b c d C W H1 H2 => by
        have := same_any a b 104 c 104 d C C W H1 H2
        rwa [beq_self_eq_true] at this
      have h104 : ∀ C ∈ wantW s k i, C.length = 104 := fun C h => wantW_104 h
      have hkn := fun W => known22_any W
      generalize wantW s k i = WW at *
      clear hJ hM9 hHeld
      go_wp2_with fail
      go_loopw [12] (fun v12 wr => ∃ (j : Nat) (b1 b2 b3 b4 : Option Addr) (f1 f2 f3 f4 nl : Nat), j ≤ q ∧ v12 = .int .i64 j ∧ nl ≤ 104 ∧ Blk wr g0 28 [.slice b1 32 f1, .slice b2 32 f2, .slice b3 (q - j) f3, .slice b4 nl f4, .int .i64 1, .int .i64 (j : Int)] ∧ JarN (jarI s WW j) (q - j) nl b1 b2 b3 b4 f1 f2 f3 f4 wr ∧ Bsc wr sa q WW ∧ Typ3 wr sa ∧ Ext w wr) (fun v12 _ => q - (intOf v12).toNat)
      case atStart => exact ⟨0, c1, c2, c3, c4, e1, e2, e3, e4, 0, by omega, rfl, by omega, hJ9, hN, hBw, hty, hE⟩
      case round =>
        clear hJ9 hN hBw hty hE
        obtain ⟨j, b1, b2, b3, b4, f1, f2, f3, f4, nl, hj, rfl, hnl, hB, hN, hBw, hty, hE⟩ := hrel
        by_cases hlt : j < q
        · have j1 : (j : Int) < (q : Int) := by omega
          obtain ⟨b0, o0, a', n', c', rfl, hb0, hcell, hc', hS⟩ := hBw.at j hlt
          have hC := List.getElem?_eq_getElem (show j < WW.length by omega)
          have hl104 := h104 _ (List.getElem_mem (show j < WW.length by omega))
          generalize WW[j] = C at hS hC hl104
          have hn' : n' = 104 := by rw [← hS.len]; exact hl104
          subst hn'
          go_wp2_with (first
            | (refine wpList_load_arr (RJ6) rfl _ rfl (g0) (0) rfl ([.slice b1 32 f1, .slice b2 32 f2, .slice b3 (q - j) f3, .slice b4 nl f4, .int .i64 1, .int .i64 (j : Int)]) (hB.rd) (rfl) ?_)
            | fail)
          (with_reducible refine (htk j nl C _ _ _ _ _ _ _ _ _ hC hnl hN).mono ?_)
          rintro e w10 ⟨p1, x1, p2, x2, p3, x3, p4, x4, p5, x5, rfl, hP, h5, k5, hlast, hx10⟩
          go_wp2_with (first
            | ((refine wpList_alloc_store (RJ6) rfl rfl _ _ rfl rfl rfl rfl (by simp [Act.put]) ([.slice p1 32 x1, .slice p2 32 x2, .slice p3 (q - (j + 1)) x3, .slice p4 104 x4, .int .i64 1, .int .i64 ((j + 1 : Nat) : Int)]) rfl (by simp) (rfl) ((by simp; repeat' (first | rfl | constructor))) ?_; intro x hz _); haveI : BlkLt b0 (w10.ext x) := ⟨Nat.lt_of_lt_of_le hb0.lt (hx10.trans (Ext.of_ext _ _)).size⟩; have hcx := ((hx10.trans (Ext.of_ext w10 x)).cell (p := ⟨b0, o0 + j, none⟩) hb0.lt).trans hcell)
            | fail)
          have hxx : Ext w10 (w10.ext x) := Ext.of_ext _ _
          have hx1x := hx10.trans hxx
          have hP := hP.ext hxx
          have h5 := h5.ext hxx
          have hS := hS.ext hx1x
          (with_reducible refine (hsm _ _ _ _ C _ h5 hS).mono ?_)
          rintro e w12 ⟨rfl, hx12⟩
          have hz2 := hz.extB hx12
          haveI := hz2.blt
          have f3' := hz2.cell? 3 rfl
          go_wp2_with fail
          (with_reducible refine (hsm _ _ _ _ C _ (by rw [← hlast]; exact hP.la.ext hx12) (h5.ext hx12)).mono ?_)
          rintro e w13 ⟨rfl, hx13⟩
          have hx23 := hx12.trans hx13
          have hx33 := hx1x.trans hx23
          have hB := hB.extB hx33
          have hP := hP.ext hx23
          have hBw := hBw.ext hx33
          have hty := hty.ext hx33
          have hE := hE.trans hx33
          have hz := hz.extB hx23
          clear hcx f3' h5 hS hx12 hx13 hx23 hx33 hx1x hxx hz2 hcell
          go_wp2_with (first
            | (refine wpList_load_arr (RJ6) rfl _ rfl (w10.heap.size) (0) rfl ([.slice p1 32 x1, .slice p2 32 x2, .slice p3 (q - (j + 1)) x3, .slice p4 104 x4, .int .i64 1, .int .i64 ((j + 1 : Nat) : Int)]) (hz.rd) (rfl) ?_)
            | (refine wpList_store_arr (RJ6) rfl _ _ rfl (g0) (0) rfl ([.slice p1 32 x1, .slice p2 32 x2, .slice p3 (q - (j + 1)) x3, .slice p4 104 x4, .int .i64 1, .int .i64 ((j + 1 : Nat) : Int)]) rfl (28) _ (hB) (rfl) (by simp) ((by simp; repeat' (first | rfl | constructor))) ?_; intro w14 hB14 hM14)
            | fail)
          have hB14 : Blk w14 g0 28 [.slice p1 32 x1, .slice p2 32 x2, .slice p3 (q - (j + 1)) x3, .slice p4 104 x4, .int .i64 1, .int .i64 ((j + 1 : Nat) : Int)] := hB14
          have hP := hP.mut hB (by decide) (by simp) hM14
          have hBw := hBw.mutNe (hty.ne hB (by decide)) hB (by simp) hM14
          have hty := hty.mut hB (by decide) hM14
          have hE : Ext w w14 := Below.trans hE (hM14.below hgw hE.size)
          go_roundw
          case rel => exact ⟨j + 1, p1, p2, p3, p4, x1, x2, x3, x4, 104, by omega, by go_num, by omega, hB14, hP, hBw, hty, hE⟩
          case measure => simp [intOf]; omega
        · obtain rfl : j = q := by omega
          have j1 : ¬ (j : Int) < (j : Int) := by omega
          rw [Nat.sub_self] at hB hN
          go_wp2_with (first
            | (refine wpList_load_arr (RJ6) rfl _ rfl (g0) (0) rfl ([.slice b1 32 f1, .slice b2 32 f2, .slice b3 0 f3, .slice b4 nl f4, .int .i64 1, .int .i64 (j : Int)]) (hB.rd) (rfl) ?_)
            | fail)
          (with_reducible refine (htx nl _ _ _ _ _ _ _ _ _ hnl hN).mono ?_)
          rintro e w10 ⟨p1, m1, x1, p2, m2, x2, p3, m3, x3, p4, m4, x4, p5, m5, x5, rfl, hx10⟩
          go_wp2_with (first
            | (refine wpList_alloc_store (RJ6) rfl rfl _ _ rfl rfl rfl rfl (by simp [Act.put]) ([.slice p1 m1 x1, .slice p2 m2 x2, .slice p3 m3 x3, .slice p4 m4 x4, .int .i64 0, .int .i64 0]) rfl (by simp) (rfl) ((by simp; repeat' (first | rfl | constructor))) ?_; intro x hz _)
            | fail)
          (with_reducible refine (hkn _).mono ?_)
          rintro e w12 ⟨rfl, hx12⟩
          go_wp2_with fail
          go_ret
          exact ⟨rfl, hE.trans (hx10.trans ((Ext.of_ext _ _).trans hx12))⟩
end Go.Proofs.Ytmmbcgbadaojeaa
