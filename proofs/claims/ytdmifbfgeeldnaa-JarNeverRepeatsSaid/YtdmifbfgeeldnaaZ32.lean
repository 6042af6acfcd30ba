/- Lemmas of this claim, several texts joined. -/
import Derived.Test.YtdmifbfgeeldnaaZ2
import Derived.Test.YtdmifbfgeeldnaaZ4
import Derived.Test.YtdmifbfgeeldnaaZ7
import Derived.Test.YtdmifbfgeeldnaaZ11
import Derived.Test.YtdmifbfgeeldnaaZ14
import Derived.Test.YtdmifbfgeeldnaaZ26
import Derived.Test.YtdmifbfgeeldnaaZ28
import Derived.Test.YtdmifbfgeeldnaaZ33
set_option linter.unusedVariables false
set_option linter.unusedSimpArgs false
/- Layer 22: the jars that the statements draw, as plain functions. No program. -/
namespace Go.Jar
open Go.Sha Go.Pkt Go.Oct Go.Aes Go.Lane
theorem ckW_nodup {s k : Nat} (hs : s < 1024) (hk : k ≤ 8) : (ckW s k).Nodup := by
  have h := cookiesK hs
  unfold offsK at h
  have h := List.pairwise_map.1 (List.pairwise_append.1 h).1
  unfold ckW List.Nodup
  rw [List.pairwise_map]
  exact h.sublist (List.range_sublist.2 hk)
def ck0 (s : Nat) : List UInt8 := wbytes (s + 1000003) 104
theorem ck0_length (s : Nat) : (ck0 s).length = 104 := wbytes_length _ _
theorem ckW_cons (s k : Nat) : ckW s (k + 1) = ck0 s :: (ckW s (k + 1)).tail := by
  unfold ckW
  rw [List.range_succ_eq_map]
  rfl
theorem nil_ckW {s k : Nat} : ([] : List UInt8) ∉ ckW s k := fun h => by have := ckW_104 h; simp at this
theorem jarW_valid {s k : Nat} (hs : s < 1024) (hk : k ≤ 8) : validJ (jarW s k) = true := by
  refine validJ_end ?_ (fun b hb => ckW_104 hb) (ckW_nodup hs hk)
  refine ⟨⟨upW_length s, dnW_length s⟩, ?_, .inl rfl, nil_ckW, ?_, ?_, ?_⟩
  · show (ckW s k).length ≤ 8; rw [ckW_length]; exact hk
  · show (0 : Int) ≤ 1; omega
  · show (0 : Int) ≤ 0; omega
  · show (0 : Int) ≤ 1099511627776; omega
/-- The jar behind the first taking. -/
def jar1 (s k : Nat) : Jar := ⟨upW s, dnW s, (ckW s k).tail, ck0 s, 1, 1⟩
theorem takeJ_W {s k : Nat} (hs : s < 1024) (h1 : 1 ≤ k) (hk : k ≤ 8) : takeJ (jarW s k) = ((jar1 s k, ck0 s), 0) := by
  obtain ⟨k, rfl⟩ : ∃ m, k = m + 1 := ⟨k - 1, by omega⟩
  unfold takeJ
  rw [if_pos (jarW_valid hs hk)]
  have hl : (jarW s (k + 1)).ck.length = k + 1 := ckW_length _ _
  have hn : ¬ (jarW s (k + 1)).sent = 1099511627776 := by show ¬ (0 : Int) = 1099511627776; omega
  rw [if_neg (by omega), if_neg hn]
  have hh : (jarW s (k + 1)).ck.headD [] = ck0 s := by show (ckW s (k + 1)).headD [] = ck0 s; rw [ckW_cons]; rfl
  rw [hh]
  rfl
theorem jar1_valid {s k : Nat} (hs : s < 1024) (h1 : 1 ≤ k) (hk : k ≤ 8) : validJ (jar1 s k) = true := by
  obtain ⟨k, rfl⟩ : ∃ m, k = m + 1 := ⟨k - 1, by omega⟩
  have hn := ckW_nodup hs hk
  have hc := ckW_cons s k
  have hl := ckW_length s (k + 1)
  rw [hc] at hn hl
  rw [List.nodup_cons] at hn
  rw [List.length_cons] at hl
  refine validJ_end ?_ (fun b hb => ckW_104 (s := s) (k := k + 1) (List.mem_of_mem_tail hb)) hn.2
  refine ⟨⟨upW_length s, dnW_length s⟩, ?_, .inr (ck0_length s), hn.1, ?_, ?_, ?_⟩
  · show (ckW s (k + 1)).tail.length ≤ 8; omega
  · show (0 : Int) ≤ 1; omega
  · show (0 : Int) ≤ 1; omega
  · show (1 : Int) ≤ 1099511627776; omega
theorem szQ {u c : List UInt8} {k : Nat} (hu : u.length = 32) (hc : c.length = 104) {f : Fld} (h : f ∈ plainQ u c k) : (0 ≤ f.1 ∧ f.1 ≤ 65535) ∧ f.1 ≠ 1028 ∧ szN f.2.length ≤ 108 ∧ f.2.length ≤ 104 := by
  rcases plainQ_in h with h | h | h
  · rw [h]; refine ⟨by simp, by simp, ?_, ?_⟩
    · show szN u.length ≤ 108; rw [hu]; decide
    · show u.length ≤ 104; omega
  · rw [h]; refine ⟨by simp, by simp, ?_, ?_⟩
    · show szN c.length ≤ 108; rw [hc]; decide
    · show c.length ≤ 104; omega
  · rw [h]; refine ⟨by simp, by simp, ?_, ?_⟩
    · show szN (List.replicate 104 (0 : UInt8)).length ≤ 108; rw [List.length_replicate]; decide
    · show (List.replicate 104 (0 : UInt8)).length ≤ 104; rw [List.length_replicate]; omega
theorem totQ {u c : List UInt8} (hu : u.length = 32) (hc : c.length = 104) (k : Nat) : totN (plainQ u c k) = 36 + 108 * (k + 1) := by
  induction k with
  | zero =>
    have e : totN (plainQ u c 0) = szN u.length + szN c.length := by simp [plainQ, totN]
    rw [e, hu, hc]; decide
  | succ k ih =>
    rw [plainQ_succ, totN_snoc, ih]
    show 36 + 108 * (k + 1) + szN (List.replicate 104 (0 : UInt8)).length = _
    rw [List.length_replicate, show szN 104 = 108 from by decide]
    omega
theorem fitsQ {u c : List UInt8} (hu : u.length = 32) (hc : c.length = 104) (t : UInt64) {k : Nat} (hk : k ≤ 7) : Fits (pktQ t u c k) 16 where
  h := askH_ok t
  f1 := fun f hf => ⟨(szQ hu hc hf).1, Nat.le_trans (szQ hu hc hf).2.2.1 (by omega)⟩
  f2 := fun f hf => by cases hf
  a := fun f hf => (szQ hu hc hf).2.1
  n1 := by show (plainQ u c k).length < 24; rw [plainQ_length]; omega
  n2 := by show 0 ≤ 24; omega
  n0 := by omega
  t := by
    show 48 + totN (plainQ u c k) + (8 + pad4 16 + pad4 (16 + totN [])) ≤ 1280
    rw [totQ hu hc, show totN [] = 0 from rfl]
    unfold pad4; omega
  t2 := by show totN [] ≤ 1232; rw [show totN [] = 0 from rfl]; omega
/-- The bytes of a question. -/
def quesX (s k : Nat) (t : UInt64) (u nn : List UInt8) : List UInt8 := (protE (upW s) (pktQ t u (ck0 s) (8 - k)) nn).1
theorem quesJ_W {s k : Nat} (hs : s < 1024) (h1 : 1 ≤ k) (hk : k ≤ 8) (t : UInt64) {u nn : List UInt8} (hu : u.length = 32) (hn : nn.length = 16) : quesJ (jarW s k) t u nn = ((jar1 s k, quesX s k t u nn), 0) ∧ (quesX s k t u nn).length = 124 + 108 * (9 - k) ∧
    openP (upW s) (quesX s k t u nn) = (⟨askH t, (plainQ u (ck0 s) (8 - k)).map padF, [], true⟩, 0) := by
  have hf := fitsQ hu (ck0_length s) t (show 8 - k ≤ 7 by omega)
  rw [← hn] at hf
  have hp := protE_fits (upW_length s) hf
  have hl : (jar1 s k).ck.length = k - 1 := by show (ckW s k).tail.length = k - 1; rw [List.length_tail, ckW_length]
  have e1 : quesX s k t u nn = _ := congrArg Prod.fst hp.1
  refine ⟨?_, ?_, ?_⟩
  · unfold quesJ
    rw [if_pos ⟨jarW_valid hs hk, hu, hn⟩, takeJ_W hs h1 hk]
    simp only
    rw [hl, show 7 - (k - 1) = 8 - k by omega, if_pos trivial]
    show (if (protE (upW s) (pktQ t u (ck0 s) (8 - k)) nn).2 = 0 then _ else _) = _
    rw [if_pos (by rw [hp.1])]
    rfl
  · have h3 := hp.2
    have h4 := fits_len hf
    rw [e1]
    show (hdrB (askH t) ++ bytesF (plainQ u (ck0 s) (8 - k)) ++ fldB (1028, guardB nn (sealB (upW s) (pktQ t u (ck0 s) (8 - k)) nn))).length = _
    rw [List.length_append, h3]
    have h4 : (hdrB (askH t) ++ bytesF (plainQ u (ck0 s) (8 - k))).length = 48 + totN (plainQ u (ck0 s) (8 - k)) := h4
    rw [h4, totQ hu (ck0_length s), hn]
    show 48 + (36 + 108 * (8 - k + 1)) + (8 + pad4 16 + pad4 (16 + totN [])) = _
    rw [show totN [] = 0 from rfl]
    unfold pad4
    omega
  · have h5 := openP_fits (upW_length s) hf
    rw [e1]
    exact h5
end Go.Jar

/- Layer 22: putting cookies into a drawn jar, and taking them in their order. No program. -/
namespace Go.Jar
open Go.Sha Go.Lane
def putW (s m : Nat) : List (List UInt8) := (List.range m).map fun i => wbytes (s + 9000000 * (i + 1)) 104
theorem putW_length (s m : Nat) : (putW s m).length = m := by simp [putW]
theorem putW_succ (s m : Nat) : putW s (m + 1) = putW s m ++ [wbytes (s + 9000000 * (m + 1)) 104] := by simp [putW, List.range_succ]
theorem putW_104 {s k : Nat} {b : List UInt8} (h : b ∈ putW s k) : b.length = 104 := by
  obtain ⟨i, _, rfl⟩ := List.mem_map.1 h
  exact wbytes_length _ _
theorem allW_nodup {s k m : Nat} (hs : s < 1024) (hk : k ≤ 8) (hm : m ≤ 11) : (ckW s k ++ putW s m).Nodup := by
  have h := cookiesK hs
  have e : offsK.map (fun o => wbytes (s + o) 104) = ckW s 8 ++ putW s 11 := by
    unfold offsK ckW putW
    rw [List.map_append, List.map_map, List.map_map]
    rfl
  have h2 : (ckW s 8 ++ putW s 11).Nodup := by
    rw [← e]
    exact List.pairwise_map.2 h
  refine h2.sublist ?_
  unfold ckW putW
  exact ((List.range_sublist.2 hk).map _).append ((List.range_sublist.2 hm).map _)
/-- What is to be taken. -/
def wantW (s k m : Nat) : List (List UInt8) := (ckW s k ++ putW s m).take 8
theorem addJ_put {s k m : Nat} (hs : s < 1024) (hk : k ≤ 8) (hm : m ≤ 11) : ∀ j, j ≤ m → addJ (jarW s k) (putW s j) = { jarW s k with ck := wantW s k j } := by
  intro j
  induction j with
  | zero =>
    intro _
    have : wantW s k 0 = ckW s k := by unfold wantW putW; simp; rw [List.take_of_length_le (by rw [ckW_length]; exact hk)]
    rw [this]; rfl
  | succ j ih =>
    intro hj
    rw [putW_succ, addJ_snoc, ih (by omega)]
    have hn := allW_nodup (k := k) (m := j + 1) hs hk (by omega)
    rw [putW_succ, ← List.append_assoc] at hn
    have hnb : wbytes (s + 9000000 * (j + 1)) 104 ∉ ckW s k ++ putW s j := fun h => by
      have := (List.nodup_append.1 hn).2.2 _ h _ (List.mem_singleton_self _)
      exact this rfl
    have hl : (ckW s k ++ putW s j).length = k + j := by rw [List.length_append, ckW_length, putW_length]
    have hb : ([] : List UInt8) ≠ wbytes (s + 9000000 * (j + 1)) 104 := fun h => by
      have := congrArg List.length h
      rw [wbytes_length] at this; simp at this
    have e : wantW s k (j + 1) = (ckW s k ++ putW s j ++ [wbytes (s + 9000000 * (j + 1)) 104]).take 8 := by unfold wantW; rw [putW_succ, List.append_assoc]
    rw [e]
    unfold addOne
    by_cases h8 : k + j < 8
    · have e2 : wantW s k j = ckW s k ++ putW s j := List.take_of_length_le (by omega)
      rw [if_pos ⟨by show (wantW s k j).length < 8; rw [e2]; omega, by show _ ∉ wantW s k j; rw [e2]; exact hnb, hb⟩]
      rw [List.take_of_length_le (by rw [List.length_append, hl]; simp; omega)]
      show ({ jarW s k with ck := wantW s k j ++ [_] } : Jar) = _
      rw [e2]
    · have hle : (wantW s k j).length = 8 := by unfold wantW; rw [List.length_take, hl]; omega
      rw [if_neg (fun h => by have h1 : (wantW s k j).length < 8 := h.1; omega)]
      rw [List.take_append_of_le_length (by omega)]
      rfl
theorem addJ_more {s k m : Nat} (L : List (List UInt8)) (hL : ∀ b ∈ L, b ∈ putW s m) : addJ { jarW s k with ck := wantW s k m } L = { jarW s k with ck := wantW s k m } := by
  induction L with
  | nil => rfl
  | cons b L ih =>
    have hb := hL b (List.mem_cons_self ..)
    have e : addOne { jarW s k with ck := wantW s k m } b = { jarW s k with ck := wantW s k m } := by
      unfold addOne
      rw [if_neg]
      rintro ⟨h1, h2, _⟩
      have h1 : (wantW s k m).length < 8 := h1
      have e2 : wantW s k m = ckW s k ++ putW s m := by
        unfold wantW at h1 ⊢
        rw [List.length_take] at h1
        exact List.take_of_length_le (by omega)
      exact h2 (by show b ∈ wantW s k m; rw [e2]; exact List.mem_append_right _ hb)
    show addJ (addOne _ b) L = _
    rw [e]
    exact ih fun c hc => hL c (List.mem_cons_of_mem _ hc)
theorem putJ_W {s k m : Nat} (hs : s < 1024) (hk : k ≤ 8) (hm : m ≤ 11) : putJ (jarW s k) (putW s m ++ putW s m) = ({ jarW s k with ck := wantW s k m }, 0) := by
  unfold putJ
  have ha : allC (putW s m ++ putW s m) = true := by
    unfold allC
    rw [List.all_eq_true]
    intro b hb
    rw [decide_eq_true_iff]
    rcases List.mem_append.1 hb with h | h <;> exact putW_104 h
  rw [jarW_valid hs hk, ha]
  simp only [Bool.and_self, if_true]
  have e : addJ (jarW s k) (putW s m ++ putW s m) = addJ (addJ (jarW s k) (putW s m)) (putW s m) := by unfold addJ; rw [List.foldl_append]
  rw [e, addJ_put hs hk hm m (Nat.le_refl _), addJ_more _ fun b hb => hb]
theorem wantW_length {s k m : Nat} : (wantW s k m).length = min 8 (k + m) := by unfold wantW; rw [List.length_take, List.length_append, ckW_length, putW_length]
theorem wantW_nodup {s k m : Nat} (hs : s < 1024) (hk : k ≤ 8) (hm : m ≤ 11) : (wantW s k m).Nodup := (allW_nodup hs hk hm).sublist (List.take_sublist _ _)
theorem wantW_104 {s k m : Nat} {b : List UInt8} (h : b ∈ wantW s k m) : b.length = 104 := by
  rcases List.mem_append.1 (List.mem_of_mem_take h) with h | h
  · exact ckW_104 h
  · exact putW_104 h
/-- The jar behind i takings. -/
def jarI (s : Nat) (w : List (List UInt8)) (i : Nat) : Jar := ⟨upW s, dnW s, w.drop i, if i = 0 then [] else w.getD (i - 1) [], 1, i⟩
theorem jarI_valid {s k m i : Nat} (hs : s < 1024) (hk : k ≤ 8) (hm : m ≤ 11) (hi : i ≤ (wantW s k m).length) : validJ (jarI s (wantW s k m) i) = true := by
  have hn := wantW_nodup hs hk hm
  have hl := wantW_length (s := s) (k := k) (m := m)
  refine validJ_end ⟨⟨upW_length s, dnW_length s⟩, ?_, ?_, ?_, ?_, ?_, ?_⟩ (fun b hb => wantW_104 (List.mem_of_mem_drop hb)) (hn.sublist (List.drop_sublist _ _))
  · show ((wantW s k m).drop i).length ≤ 8; rw [List.length_drop]; omega
  · show (if i = 0 then [] else (wantW s k m).getD (i - 1) []).length = 0 ∨ _
    by_cases h0 : i = 0
    · rw [if_pos h0]; exact .inl rfl
    · right
      show (if i = 0 then [] else (wantW s k m).getD (i - 1) []).length = 104
      rw [if_neg h0, List.getD_eq_getElem?_getD, List.getElem?_eq_getElem (by omega)]
      exact wantW_104 (List.getElem_mem _)
  · show (if i = 0 then [] else (wantW s k m).getD (i - 1) []) ∉ (wantW s k m).drop i
    by_cases h0 : i = 0
    · rw [if_pos h0]; intro h; have := wantW_104 (List.mem_of_mem_drop h); simp at this
    · rw [if_neg h0, List.getD_eq_getElem?_getD, List.getElem?_eq_getElem (by omega)]
      intro h
      obtain ⟨j, hj, he⟩ := List.getElem_of_mem h
      rw [List.length_drop] at hj
      rw [List.getElem_drop] at he
      have := List.pairwise_iff_getElem.1 hn (i - 1) (i + j) (by omega) (by omega) (by omega)
      exact this he.symm
  · show (0 : Int) ≤ 1; omega
  · show (0 : Int) ≤ (i : Int); omega
  · show (i : Int) ≤ 1099511627776; omega
theorem jarI_zero (s k m : Nat) : jarI s (wantW s k m) 0 = ({ jarW s k with ck := wantW s k m } : Jar) := rfl
theorem takeJ_I {s k m i : Nat} (hs : s < 1024) (hk : k ≤ 8) (hm : m ≤ 11) (hi : i < (wantW s k m).length) : takeJ (jarI s (wantW s k m) i) = ((jarI s (wantW s k m) (i + 1), (wantW s k m)[i]), 0) := by
  have hl := wantW_length (s := s) (k := k) (m := m)
  have hd : (wantW s k m).drop i = (wantW s k m)[i] :: (wantW s k m).drop (i + 1) := List.drop_eq_getElem_cons hi
  unfold takeJ
  have hc : (jarI s (wantW s k m) i).ck = (wantW s k m).drop i := rfl
  have hsn : (jarI s (wantW s k m) i).sent = (i : Int) := rfl
  rw [if_pos (jarI_valid hs hk hm (by omega)), hc, hsn, if_neg (by rw [List.length_drop]; omega), if_neg (by omega), hd]
  have hg : (wantW s k m).getD i [] = (wantW s k m)[i] := by rw [List.getD_eq_getElem?_getD, List.getElem?_eq_getElem hi]; rfl
  show (((⟨upW s, dnW s, (wantW s k m).drop (i + 1), (wantW s k m)[i], 1, (i : Int) + 1⟩ : Jar), (wantW s k m)[i]), (0 : Int)) = _
  unfold jarI
  rw [if_neg (by omega), Nat.add_sub_cancel, hg]
  rfl
theorem takeJ_end {s k m : Nat} (hs : s < 1024) (hk : k ≤ 8) (hm : m ≤ 11) : takeJ (jarI s (wantW s k m) (wantW s k m).length) = ((zeroJ, []), 10) := by
  unfold takeJ
  have hc : (jarI s (wantW s k m) (wantW s k m).length).ck = (wantW s k m).drop (wantW s k m).length := rfl
  rw [if_pos (jarI_valid hs hk hm (Nat.le_refl _)), hc, if_pos (by simp)]
end Go.Jar

/- Layer 22: the sanity check. -/
namespace Go.Proofs.Ytdmifbfgeeldnaa
open Go.RowKit Go.Sec Go.Oct Go.Jar Go.Pkt Go.Sha BigFrame

def zJ32 : List UInt8 := List.replicate 32 0
def zJ16 : List UInt8 := List.replicate 16 0
theorem zJ32_len : zJ32.length = 32 := by decide
/-- What is kept of a jar that a drawn region makes. -/
def JarP (s k : Nat) (p : Par) (w : World) : Prop := Sl w (p 0).1 32 (upW s) ∧ 32 ≤ (p 0).2 ∧ Sl w (p 1).1 32 (dnW s) ∧ 32 ≤ (p 1).2 ∧ Bsc w (p 2).1 k (ckW s k) ∧ k ≤ (p 2).2
theorem JarP.ext {s k : Nat} {p : Par} {w w' : World} (h : JarP s k p w) (hx : Ext w w') : JarP s k p w' := ⟨h.1.ext hx, h.2.1, h.2.2.1.ext hx, h.2.2.2.1, h.2.2.2.2.1.ext hx, h.2.2.2.2.2⟩
/-- The jar's value. -/
def JarV (k : Nat) (p : Par) : Value := .agg #[.slice (p 0).1 32 (p 0).2, .slice (p 1).1 32 (p 1).2, .slice (p 2).1 k (p 2).2, .slice none 0 0, .int .i64 1, .int .i64 0]
theorem vag_jar {s k : Nat} {w : World} {f : FuncId} {args : Array Value} (h : Calls Try.prog f args w (WJarO s k w)) : Calls Try.prog f args w fun e w'' => ∃ v, e = .returned v ∧ ∃ p : Par, v = JarV k p ∧ Ext w w'' ∧ JarP s k p w'' := by
  refine h.mono ?_
  rintro e w' ⟨a1, d1, a2, d2, b3, d3, rfl, h1, h2, h3, h4, h5, h6, hx⟩
  refine ⟨_, rfl, fun i => match i with | 0 => (a1, d1) | 1 => (a2, d2) | _ => (b3, d3), rfl, hx, h1, h2, h3, h4, h5, h6⟩
/-- What is kept of a question. -/
def QuesP (r : Jar × List UInt8) (n1 n2 n3 n4 n5 : Nat) (p : Par) (w : World) : Prop := Sl w (p 0).1 n1 r.1.up ∧ n1 ≤ (p 0).2 ∧ Sl w (p 1).1 n2 r.1.dn ∧ n2 ≤ (p 1).2 ∧ Bsc w (p 2).1 n3 r.1.ck ∧ n3 ≤ (p 2).2 ∧ Typ3 w (p 2).1 ∧ Sl w (p 3).1 n4 r.1.last ∧ n4 ≤ (p 3).2 ∧ Sl w (p 4).1 n5 r.2 ∧ n5 ≤ (p 4).2
theorem QuesP.ext {r : Jar × List UInt8} {n1 n2 n3 n4 n5 : Nat} {p : Par} {w w' : World} (h : QuesP r n1 n2 n3 n4 n5 p w) (hx : Ext w w') : QuesP r n1 n2 n3 n4 n5 p w' := by
  obtain ⟨h1, h2, h3, h4, h5, h6, ht, h7, h8, h9, h10⟩ := h
  exact ⟨h1.ext hx, h2, h3.ext hx, h4, h5.ext hx, h6, ht.ext hx, h7.ext hx, h8, h9.ext hx, h10⟩
def QuesV (net sent : Int) (n1 n2 n3 n4 n5 : Nat) (p : Par) : Value := .tuple #[.agg #[.slice (p 0).1 n1 (p 0).2, .slice (p 1).1 n2 (p 1).2, .slice (p 2).1 n3 (p 2).2, .slice (p 3).1 n4 (p 3).2, .int .i64 net, .int .i64 sent], .slice (p 4).1 n5 (p 4).2, .int .i64 0]
theorem vag_ques {r : Jar × List UInt8} {w : World} {f : FuncId} {args : Array Value} {net sent : Int} {n1 n2 n3 n4 n5 : Nat} (h : Calls Try.prog f args w (QuesE (r, 0) w)) (e1 : r.1.up.length = n1) (e2 : r.1.dn.length = n2) (e3 : r.1.ck.length = n3) (e4 : r.1.last.length = n4) (e5 : r.2.length = n5) (en : r.1.net = net) (es : r.1.sent = sent) :
    Calls Try.prog f args w fun e w'' => ∃ v, e = .returned v ∧ ∃ p : Par, v = QuesV net sent n1 n2 n3 n4 n5 p ∧ Ext w w'' ∧ QuesP r n1 n2 n3 n4 n5 p w'' := by
  refine h.mono ?_
  rintro e w' ⟨b1, m1, d1, b2, m2, d2, b3, m3, d3, b4, m4, d4, b5, m5, d5, rfl, h1, h2, h3, h4, h5, h6, ht, h7, h8, h9, h10, hx⟩
  have l1 : m1 = n1 := by rw [← e1]; exact h1.len.symm
  have l2 : m2 = n2 := by rw [← e2]; exact h3.len.symm
  have l3 : m3 = n3 := by rw [← e3]; exact h5.len.symm
  have l4 : m4 = n4 := by rw [← e4]; exact h7.len.symm
  have l5 : m5 = n5 := by rw [← e5]; exact h9.len.symm
  subst l1 l2 l3 l4 l5
  refine ⟨_, rfl, fun i => match i with | 0 => (b1, d1) | 1 => (b2, d2) | 2 => (b3, d3) | 3 => (b4, d4) | _ => (b5, d5), ?_, hx, h1, h2, h3, h4, h5, h6, ht, h7, h8, h9, h10⟩
  subst en es
  rfl
/-- What is kept of a move. -/
def MoveP (j : Jar) (n1 n2 n3 n4 : Nat) (p : Par) (w : World) : Prop := Sl w (p 0).1 n1 j.up ∧ n1 ≤ (p 0).2 ∧ Sl w (p 1).1 n2 j.dn ∧ n2 ≤ (p 1).2 ∧ Bsc w (p 2).1 n3 j.ck ∧ n3 ≤ (p 2).2 ∧ Typ3 w (p 2).1 ∧ Sl w (p 3).1 n4 j.last ∧ n4 ≤ (p 3).2
theorem MoveP.ext {j : Jar} {n1 n2 n3 n4 : Nat} {p : Par} {w w' : World} (h : MoveP j n1 n2 n3 n4 p w) (hx : Ext w w') : MoveP j n1 n2 n3 n4 p w' := by
  obtain ⟨h1, h2, h3, h4, h5, h6, ht, h7, h8⟩ := h
  exact ⟨h1.ext hx, h2, h3.ext hx, h4, h5.ext hx, h6, ht.ext hx, h7.ext hx, h8⟩
def MoveV (net sent : Int) (n1 n2 n3 n4 : Nat) (p : Par) : Value := .tuple #[.agg #[.slice (p 0).1 n1 (p 0).2, .slice (p 1).1 n2 (p 1).2, .slice (p 2).1 n3 (p 2).2, .slice (p 3).1 n4 (p 3).2, .int .i64 net, .int .i64 sent], .int .i64 0]
theorem vag_move {j : Jar} {w : World} {f : FuncId} {args : Array Value} {net sent : Int} {n1 n2 n3 n4 : Nat} (h : Calls Try.prog f args w (JarE (j, 0) w)) (e1 : j.up.length = n1) (e2 : j.dn.length = n2) (e3 : j.ck.length = n3) (e4 : j.last.length = n4) (en : j.net = net) (es : j.sent = sent) :
    Calls Try.prog f args w fun e w'' => ∃ v, e = .returned v ∧ ∃ p : Par, v = MoveV net sent n1 n2 n3 n4 p ∧ Ext w w'' ∧ MoveP j n1 n2 n3 n4 p w'' := by
  refine h.mono ?_
  rintro e w' ⟨b1, m1, d1, b2, m2, d2, b3, m3, d3, b4, m4, d4, rfl, h1, h3, h5, h6, ht, h7, hx⟩
  have l1 : m1 = n1 := by rw [← e1]; exact h1.1.symm
  have l2 : m2 = n2 := by rw [← e2]; exact h3.1.symm
  have l3 : m3 = n3 := by rw [← e3]; exact h5.len.symm
  have l4 : m4 = n4 := by rw [← e4]; exact h7.1.symm
  subst l1 l2 l3 l4
  refine ⟨_, rfl, fun i => match i with | 0 => (b1, d1) | 1 => (b2, d2) | 2 => (b3, d3) | _ => (b4, d4), ?_, hx, h1.sl, h1.le.1, h3.sl, h3.le.1, h5, h6, ht, h7.sl, h7.le.1⟩
  subst en es
  rfl
set_option maxRecDepth 100000 in
set_option maxHeartbeats 400000 in
theorem known22_any (w : World) : Calls Try.prog 4 #[] w fun e w' => e = .returned (.bool true) ∧ Ext w w' := by
  have hmk := run_make_by U 32 32 (Nat.le_refl _) (by omega)
  have hmk16 := run_make_by U 16 16 (Nat.le_refl _) (by omega)
  simp only [Int.cast_ofNat_Int] at hmk hmk16
  have hwj := fun W => wjar_any 1 1 1 (show (1 : Int) = ((1 : Nat) : Int) from rfl) W (by omega) (by decide)
  have hq := quesJ_W (s := 1) (k := 1) (by omega) (by omega) (by omega) 5 (u := zJ32) (nn := zJ16) zJ32_len (by decide)
  have hwv := jar1_valid (s := 1) (k := 1) (by omega) (by omega) (by omega)
  have hqc : ∀ (a1 a2 a3 au an : Option Addr) (d1 d2 d3 : Nat) (W : World), JarP 1 1 (fun i => match i with | 0 => (a1, d1) | 1 => (a2, d2) | _ => (a3, d3)) W → Sl W au 32 zJ32 → Sl W an 16 zJ16 → Calls Try.prog 14 #[.agg #[.slice a1 32 d1, .slice a2 32 d2, .slice a3 1 d3, .slice none 0 0, .int .i64 1, .int .i64 0], .int .u64 5, .slice au 32 32, .slice an 16 16] W (QuesE ((jar1 1 1, quesX 1 1 5 zJ32 zJ16), 0) W) := fun a1 a2 a3 au an d1 d2 d3 W ⟨h1, h2, h3, h4, h5, h6⟩ hu hn => by
    have := jques_any a1 a2 a3 none au an 32 d1 32 d2 1 d3 0 0 32 32 16 16 (jarW 1 1) 5 zJ32 zJ16 W h1 (by omega) h3 (by omega) h5 h6 (by omega) (fun y hy => by have := ckW_104 hy; omega) (Sl.nil _ _) (by omega) hu (Nat.le_refl _) hn (Nat.le_refl _)
    rw [hq.1] at this
    exact this
  go_enter Try.func4, Try.ntmps4
  go_wp2_with fail
  refine R2.wp_region_vagueZ 9 [[], [], [], [0, 1, 2], [0, 1, 2, 3], [0, 1, 2, 3, 4], [0, 1, 2, 3, 4], [0, 1, 2, 3, 4], [], [0, 1, 2, 3, 4, 5, 8], [0, 1, 2, 3, 4, 5, 6, 8, 9], [0, 1, 2, 3, 4, 5, 6, 7, 8, 9, 10]] [6, 7] (by intro c a d v w h; cases d <;> exact h) (by kernel_rfl) (by kernel_rfl) (by kernel_rfl) (by kernel_rfl) (by kernel_rfl) ?_; simp only [List.take_succ_cons, List.take_zero, List.drop_succ_cons, List.drop_zero, List.take_nil, List.drop_nil]
  (refine R2.VD_vag (JarV 1) (JarP 1 1) (fun p w w' h hx => h.ext hx) (fun us w' hx hf => ⟨rfl, ?_⟩) ?_; (unfold gives; simp [go_sem, execOp]; exact vag_jar (hwj _)))
  (repeat (apply R2.VD_der; (case h => (intro us w' hx hf; obtain ⟨x, rfl⟩ := hx.out; refine ⟨rfl, ?_⟩; simp [go_sem, execOp, *]; (try simp (disch := omega) only [Go.IntWalk.i64_in, Go.IntWalk.rem_in, Go.IntWalk.wrap64_in]); rfl)); (try simp only [Act.put, List.setIfInBounds_toArray, List.set_cons_succ, List.set_cons_zero])))
  (refine R2.VD_vag (fun p => .slice (p 0).1 (32) (32)) (fun p w'' => Sl w'' (p 0).1 (32) (zJ32)) (fun p w w' h hx => h.ext hx) (fun us w' hx hf => ⟨rfl, ?_⟩) ?_; (unfold gives; simp [go_sem, execOp, hmk]; exact ⟨fun _ => (some ⟨w'.heap.size, 0, none⟩, 0), rfl, Ext.of_alloc _ _, (blk_zeros8 _ _).sl rfl⟩))
  (refine R2.VD_vag (fun p => .slice (p 0).1 (16) (16)) (fun p w'' => Sl w'' (p 0).1 (16) (zJ16)) (fun p w w' h hx => h.ext hx) (fun us w' hx hf => ⟨rfl, ?_⟩) ?_; (unfold gives; simp [go_sem, execOp, hmk16]; exact ⟨fun _ => (some ⟨w'.heap.size, 0, none⟩, 0), rfl, Ext.of_alloc _ _, (blk_zeros8 _ _).sl rfl⟩))
  (refine R2.VD_vag (QuesV 1 1 32 32 0 104 988) (QuesP (jar1 1 1, quesX 1 1 5 zJ32 zJ16) 32 32 0 104 988) (fun p w w' h hx => h.ext hx) (fun us w' hx hf => ⟨rfl, ?_⟩) ?_; (unfold gives; simp [go_sem, execOp]; exact vag_ques (hqc _ _ _ _ _ _ _ _ _ (hf _ (List.mem_append_left _ (List.mem_append_left _ (List.mem_append_right _ (List.mem_singleton_self _)))) rfl) (hf _ (List.mem_append_left _ (List.mem_append_right _ (List.mem_singleton_self _))) rfl) (hf _ (List.mem_append_right _ (List.mem_singleton_self _)) rfl)) (upW_length 1) (dnW_length 1) rfl (ck0_length 1) hq.2.1 rfl rfl))
  (repeat (apply R2.VD_der; (case h => (intro us w' hx hf; obtain ⟨x, rfl⟩ := hx.out; refine ⟨rfl, ?_⟩; simp [go_sem, execOp, *]; (try simp (disch := omega) only [Go.IntWalk.i64_in, Go.IntWalk.rem_in, Go.IntWalk.wrap64_in]); rfl)); (try simp only [Act.put, List.setIfInBounds_toArray, List.set_cons_succ, List.set_cons_zero])))
  (refine R2.VD_alloc _ ([.slice none 0 0, .slice none 0 0, .slice none 0 0, .slice none 0 0, .int .i64 0, .int .i64 0]) Try.zeroValue30 rfl rfl rfl ?_)
  (refine R2.VD_nil ?_; intro us w' hx hf hd; obtain ⟨x, rfl⟩ := hx.out; (try simp only [Act.put, List.setIfInBounds_toArray, List.set_cons_succ, List.set_cons_zero, wpList_none]); (try simp only [List.mem_cons, List.not_mem_nil, or_false, forall_eq_or_imp, forall_eq, List.nil_append, List.cons_append, List.mem_append, false_or, true_and, and_true] at hf); (try simp only [Nat.reduceAdd, Nat.zero_add] at hf); (try simp only [Nat.reduceAdd, Nat.zero_add]))
  obtain ⟨-, -, -, hP, g, eg, hgW, hBg⟩ := hf
  simp only [List.getElem_toArray, List.getElem_cons_succ, List.getElem_cons_zero]
  rw [eg]
  clear hd eg hqc hwj hmk hmk16
  generalize us 3 = q at *
  have hxx : Ext w (w.ext x) := Ext.of_ext _ _
  generalize w.ext x = W at *
  have hwe : wantJ (jar1 1 1) = (8, 0) := by unfold wantJ; rw [if_pos hwv]; rfl
  have hwa : ∀ W', Sl W' (q 0).1 32 (jar1 1 1).up → Sl W' (q 1).1 32 (jar1 1 1).dn → Bsc W' (q 2).1 0 (jar1 1 1).ck → Sl W' (q 3).1 104 (jar1 1 1).last → Calls Try.prog 15 #[.agg #[.slice (q 0).1 32 (q 0).2, .slice (q 1).1 32 (q 1).2, .slice (q 2).1 0 (q 2).2, .slice (q 3).1 104 (q 3).2, .int .i64 1, .int .i64 1]] W' fun e w' => e = .returned (.tuple #[.int .i64 8, .int .i64 0]) ∧ Ext W' w' := fun W' H1 H2 H3 H4 => by
    have := jwant_any (q 0).1 (q 1).1 (q 2).1 (q 3).1 32 (q 0).2 32 (q 1).2 0 (q 2).2 104 (q 3).2 (jar1 1 1) W' H1 H2 H3 (by omega) (by omega) H4
    rw [hwe] at this
    exact this
  clear hq hwv hwe
  obtain ⟨p1, p2, p3, p4, -, -, -, p7, p8, -, -⟩ := hP
  have hckn : (jar1 1 1).ck = [] := rfl
  generalize jar1 1 1 = J at *
  generalize quesX 1 1 5 zJ32 zJ16 = X at *
  haveI := hBg.blt
  go_wp2_with (first
    | (refine wpList_store_arr (RJ6) rfl _ _ rfl (g) (0) rfl ([.slice (q 0).1 32 (q 0).2, .slice (q 1).1 32 (q 1).2, .slice (q 2).1 0 (q 2).2, .slice (q 3).1 104 (q 3).2, .int .i64 1, .int .i64 1]) rfl (30) _ (hBg) (rfl) (by simp) ((by simp; repeat' (first | rfl | constructor))) ?_; intro V hV hMV)
    | (refine wpList_load_arr (RJ6) rfl _ rfl (g) (0) rfl ([.slice (q 0).1 32 (q 0).2, .slice (q 1).1 32 (q 1).2, .slice (q 2).1 0 (q 2).2, .slice (q 3).1 104 (q 3).2, .int .i64 1, .int .i64 1]) ((show Blk _ _ _ [.slice (q 0).1 32 (q 0).2, .slice (q 1).1 32 (q 1).2, .slice (q 2).1 0 (q 2).2, .slice (q 3).1 104 (q 3).2, .int .i64 1, .int .i64 1] from hV).rd) (rfl) ?_)
    | fail)
  have hB : Blk V g 30 [.slice (q 0).1 32 (q 0).2, .slice (q 1).1 32 (q 1).2, .slice (q 2).1 0 (q 2).2, .slice (q 3).1 104 (q 3).2, .int .i64 1, .int .i64 1] := hV
  have hEV : Ext w V := Below.trans hxx (hMV.below hgW hxx.size)
  have p1 := p1.mut hBg (by simp) hMV
  have p3 := p3.mut hBg (by simp) hMV
  have p7 := p7.mut hBg (by simp) hMV
  clear hBg hMV hV hgW hxx hx
  haveI := hB.blt
  (with_reducible refine (hwa V p1 p3 (by rw [hckn]; exact Bsc.nil _ _) p7).mono ?_)
  rintro e w2 ⟨rfl, hx2⟩
  have hB := hB.extB hx2
  haveI := hB.blt
  have f2 := hB.cell? 2 rfl
  have f3 := hB.cell? 3 rfl
  go_wp2_with fail
  go_ret
  exact ⟨rfl, hEV.trans hx2⟩
end Go.Proofs.Ytdmifbfgeeldnaa

/- sectimeref22.Same of equal jars. -/
namespace Go.Proofs.Ytdmifbfgeeldnaa
open Go.RowKit Go.Sec Go.Oct Go.Jar BigFrame

end Go.Proofs.Ytdmifbfgeeldnaa

/- Layer 22: the law JarForgets. -/
namespace Go.Jar
open Go.Sha
/-- The jar behind the first taking and a move. -/
def jarM (s k : Nat) (n : Int) : Jar := ⟨upW s, dnW s, (ckW s k).tail, [], n, 1⟩
theorem validJ_ck {j : Jar} (h : validJ j = true) : headJ j ∧ (∀ b ∈ j.ck, b.length = 104) ∧ j.ck.Nodup := by
  unfold validJ at h
  rw [Bool.and_eq_true, Bool.and_eq_true] at h
  exact ⟨of_decide_eq_true h.1, fun b hb => by simpa using List.all_eq_true.1 h.2.1 b hb, of_decide_eq_true h.2.2⟩
theorem jarM_valid {s k : Nat} {n : Int} (hs : s < 1024) (h1 : 1 ≤ k) (hk : k ≤ 8) (hn : 0 ≤ n) : validJ (jarM s k n) = true := by
  obtain ⟨h2, h3, h4⟩ := validJ_ck (jar1_valid hs h1 hk)
  refine validJ_end ⟨h2.1, h2.2.1, .inl rfl, ?_, hn, h2.2.2.2.2.2.1, h2.2.2.2.2.2.2⟩ h3 h4
  intro h
  have h5 : (0 : Nat) = 104 := h3 _ h
  omega
theorem moveJ_same {s k : Nat} (hs : s < 1024) (h1 : 1 ≤ k) (hk : k ≤ 8) : moveJ (jar1 s k) 1 = (jar1 s k, 0) := by
  unfold moveJ
  rw [if_pos (jar1_valid hs h1 hk), if_neg (by omega)]
  show (if (1 : Int) = 1 then _ else _, (0 : Int)) = _
  rw [if_pos rfl]
theorem moveJ_other {s k : Nat} {n : Int} (hs : s < 1024) (h1 : 1 ≤ k) (hk : k ≤ 8) (hn : 2 ≤ n) : moveJ (jar1 s k) n = (jarM s k n, 0) := by
  unfold moveJ
  rw [if_pos (jar1_valid hs h1 hk), if_neg (by omega)]
  show (if n = 1 then _ else _, (0 : Int)) = _
  rw [if_neg (by omega)]
  rfl
theorem againJ_M {s k : Nat} {n : Int} (hs : s < 1024) (h1 : 1 ≤ k) (hk : k ≤ 8) (hn : 0 ≤ n) : againJ (jarM s k n) = ([], 10) := by
  unfold againJ
  rw [if_pos (jarM_valid hs h1 hk hn)]
  rfl
theorem jar1_ck (s k : Nat) : (jar1 s k).ck.length = k - 1 := by show (ckW s k).tail.length = k - 1; rw [List.length_tail, ckW_length]
end Go.Jar
namespace Go.Proofs.Ytdmifbfgeeldnaa
open Go.RowKit Go.Sec Go.Oct Go.Jar Go.Pkt Go.Sha BigFrame

/-- What a taking out of a drawn jar hands back. -/
def TakeN (J : Jar) (C : List UInt8) (m : Nat) (w : World) (e : Ending) (w' : World) : Prop := ∃ b1 d1 b2 d2 b3 d3 b4 d4 b5 d5, e = .returned (.tuple #[.agg #[.slice b1 32 d1, .slice b2 32 d2, .slice b3 m d3, .slice b4 104 d4, .int .i64 1, .int .i64 1], .slice b5 104 d5, .int .i64 0]) ∧
  Sl w' b1 32 J.up ∧ 32 ≤ d1 ∧ Sl w' b2 32 J.dn ∧ 32 ≤ d2 ∧ Bsc w' b3 m J.ck ∧ m ≤ d3 ∧ Sl w' b4 104 J.last ∧ 104 ≤ d4 ∧ Sl w' b5 104 C ∧ 104 ≤ d5 ∧ Typ3 w' b3 ∧ Ext w w'
theorem take_norm {s k : Nat} {f : FuncId} {args : Array Value} {w : World} (h : Calls Try.prog f args w (TakeE ((jar1 s k, ck0 s), 0) w)) : Calls Try.prog f args w (TakeN (jar1 s k) (ck0 s) (k - 1) w) := by
  refine h.mono ?_
  rintro e w' ⟨b1, m1, d1, b2, m2, d2, b3, m3, d3, b4, m4, d4, b5, m5, d5, rfl, h1, h2, h3, h4, h5, h6, h7, -, ht, hx⟩
  have l1 : m1 = 32 := by rw [← h1.1]; exact upW_length s
  have l2 : m2 = 32 := by rw [← h2.1]; exact dnW_length s
  have l3 : m3 = k - 1 := by rw [← h3.len]; exact jar1_ck s k
  have l4 : m4 = 104 := by rw [← h5.len]; exact ck0_length s
  have l5 : m5 = 104 := by rw [← h7.1]; exact ck0_length s
  subst l1 l2 l3 l4 l5
  exact ⟨b1, d1, b2, d2, b3, d3, b4, d4, b5, d5, rfl, h1.sl, h1.le.1, h2.sl, h2.le.1, h3, h4, h5, h6, h7.sl, h7.le.1, ht, hx⟩
end Go.Proofs.Ytdmifbfgeeldnaa

/- Layer 22: a jar that never gives a cookie twice. No program. -/
namespace Go.Jar
open Go.Sha Go.Lane
def freshW (s f c : Nat) : List (List UInt8) := (List.range c).map fun i => wbytes (s + 5000000 * (f + i + 1)) 104
theorem freshW_length (s f c : Nat) : (freshW s f c).length = c := by simp [freshW]
theorem freshW_succ (s f c : Nat) : freshW s f (c + 1) = freshW s f c ++ [wbytes (s + 5000000 * (f + c + 1)) 104] := by simp [freshW, List.range_succ]
theorem freshW_104 {s f c : Nat} {b : List UInt8} (h : b ∈ freshW s f c) : b.length = 104 := by
  obtain ⟨i, _, rfl⟩ := List.mem_map.1 h
  exact wbytes_length _ _
def poolN (s f : Nat) : List (List UInt8) := ckW s 3 ++ freshW s 0 f
theorem poolN_succ (s f : Nat) : poolN s (f + 1) = poolN s f ++ [wbytes (s + 5000000 * (f + 1)) 104] := by
  unfold poolN
  rw [freshW_succ, Nat.zero_add, List.append_assoc]
theorem poolN_104 {s f : Nat} {b : List UInt8} (h : b ∈ poolN s f) : b.length = 104 := by
  rcases List.mem_append.1 h with h | h
  · exact ckW_104 h
  · exact freshW_104 h
theorem poolN_nodup {s f : Nat} (hs : s < 1000) (hf : f ≤ 100) : (poolN s f).Nodup := by
  have h := cookiesN hs
  have e : offsN.map (fun o => wbytes (s + o) 104) = poolN s 100 := by
    unfold offsN poolN ckW freshW
    rw [List.map_append, List.map_map, List.map_map]
    exact congr (congrArg HAppend.hAppend (List.map_congr_left fun i _ => rfl)) (List.map_congr_left fun i _ => by simp only [Function.comp_apply, Nat.zero_add])
  have h2 : (poolN s 100).Nodup := by
    rw [← e]
    exact List.pairwise_map.2 h
  refine h2.sublist ?_
  unfold poolN freshW
  exact (List.Sublist.refl _).append ((List.range_sublist.2 hf).map _)
/-- What stays true. -/
structure NR (s : Nat) (J : Jar) (T : List (List UInt8)) (f : Nat) : Prop where
  val : validJ J = true
  nod : (T ++ J.ck).Nodup
  mem : ∀ x ∈ T ++ J.ck, x ∈ poolN s f
  sent : J.sent = (T.length : Int)
theorem NR.start {s : Nat} (hs : s < 1000) : NR s (jarW s 3) [] 0 := by
  have h := poolN_nodup (f := 0) hs (by omega)
  refine ⟨jarW_valid (by omega) (by omega), ?_, fun x hx => ?_, rfl⟩
  · exact (List.nodup_append.1 h).1
  · exact List.mem_append_left _ hx
theorem NR.one {s f : Nat} {J : Jar} {T : List (List UInt8)} (h : NR s J T f) (hs : s < 1000) (hf : f + 1 ≤ 100) : NR s (addOne J (wbytes (s + 5000000 * (f + 1)) 104)) T (f + 1) := by
  have hn := poolN_nodup hs hf
  rw [poolN_succ] at hn
  have hb : ∀ x ∈ poolN s f, x ≠ wbytes (s + 5000000 * (f + 1)) 104 := fun x hx => (List.nodup_append.1 hn).2.2 x hx _ (List.mem_singleton_self _)
  have hm : ∀ x ∈ T ++ J.ck, x ∈ poolN s (f + 1) := fun x hx => by rw [poolN_succ]; exact List.mem_append_left _ (h.mem x hx)
  have hl : (wbytes (s + 5000000 * (f + 1)) 104).length = 104 := wbytes_length _ _
  have hp : wbytes (s + 5000000 * (f + 1)) 104 ∈ poolN s (f + 1) := by rw [poolN_succ]; exact List.mem_append_right _ (List.mem_singleton_self _)
  generalize wbytes (s + 5000000 * (f + 1)) 104 = b at *
  unfold addOne
  by_cases hc : J.ck.length < 8 ∧ b ∉ J.ck ∧ J.last ≠ b
  · rw [if_pos hc]
    obtain ⟨h1, h2, h3⟩ := validJ_ck h.val
    have hnd : ((T ++ J.ck) ++ [b]).Nodup := by
      rw [List.nodup_append]
      refine ⟨h.nod, by simp, fun x hx y hy => ?_⟩
      obtain rfl := List.mem_singleton.1 hy
      exact hb x (h.mem x hx)
    refine ⟨validJ_end ⟨h1.1, ?_, h1.2.2.1, ?_, h1.2.2.2.2⟩ ?_ ?_, ?_, fun x hx => ?_, h.sent⟩
    · show (J.ck ++ [b]).length ≤ 8; rw [List.length_append]; simp; omega
    · show J.last ∉ J.ck ++ [b]
      rw [List.mem_append, List.mem_singleton]
      rintro (h4 | h4)
      · exact h1.2.2.2.1 h4
      · exact hc.2.2 h4
    · intro y hy
      rcases List.mem_append.1 hy with hy | hy
      · exact h2 y hy
      · obtain rfl := List.mem_singleton.1 hy; exact hl
    · show (J.ck ++ [b]).Nodup
      rw [List.append_assoc] at hnd
      exact (List.nodup_append.1 hnd).2.1
    · show (T ++ (J.ck ++ [b])).Nodup
      rw [← List.append_assoc]; exact hnd
    · have hx : x ∈ T ++ (J.ck ++ [b]) := hx
      rw [← List.append_assoc] at hx
      rcases List.mem_append.1 hx with hx | hx
      · exact hm x hx
      · obtain rfl := List.mem_singleton.1 hx; exact hp
  · rw [if_neg hc]
    exact ⟨h.val, h.nod, hm, h.sent⟩
theorem NR.put {s f : Nat} {J : Jar} {T : List (List UInt8)} (h : NR s J T f) (hs : s < 1000) : ∀ c, f + c ≤ 100 → NR s (addJ J (freshW s f c)) T (f + c)
  | 0, _ => h
  | c + 1, hc => by
    rw [freshW_succ, addJ_snoc]
    exact (NR.put h hs c (by omega)).one hs hc
theorem putJ_NR {s f c : Nat} {J : Jar} (h : validJ J = true) : putJ J (freshW s f c) = (addJ J (freshW s f c), 0) := by
  unfold putJ
  have ha : allC (freshW s f c) = true := by
    unfold allC
    rw [List.all_eq_true]
    intro b hb
    rw [decide_eq_true_iff]
    exact freshW_104 hb
  rw [h, ha]
  rfl
def movedJ (J : Jar) (n : Int) : Jar := if n = J.net then J else { J with last := [], net := n }
theorem moveJ_NR {J : Jar} {n : Int} (h : validJ J = true) (hn : 0 ≤ n) : moveJ J n = (movedJ J n, 0) := by
  unfold moveJ movedJ
  rw [if_pos h, if_neg (by omega)]
theorem movedJ_net (J : Jar) (n : Int) : (movedJ J n).net = n ∧ (movedJ J n).sent = J.sent := by
  unfold movedJ
  split
  · next h => exact ⟨h.symm, rfl⟩
  · exact ⟨rfl, rfl⟩
theorem NR.move {s f : Nat} {J : Jar} {T : List (List UInt8)} {n : Int} (h : NR s J T f) (hn : 0 ≤ n) : NR s (movedJ J n) T f := by
  unfold movedJ
  split
  · exact h
  · obtain ⟨h1, h2, h3⟩ := validJ_ck h.val
    refine ⟨validJ_end ⟨h1.1, h1.2.1, .inl rfl, ?_, hn, h1.2.2.2.2.2⟩ h2 h3, h.nod, h.mem, h.sent⟩
    intro h4
    have h5 : (0 : Nat) = 104 := h2 _ h4
    omega
def takenJ (J : Jar) (y : List UInt8) (L : List (List UInt8)) : Jar := { J with last := y, ck := L, sent := J.sent + 1 }
theorem takeJ_NR {J : Jar} {y : List UInt8} {L : List (List UInt8)} (h : validJ J = true) (hc : J.ck = y :: L) (hs : J.sent < 1000) : takeJ J = ((takenJ J y L, y), 0) := by
  unfold takeJ takenJ
  rw [if_pos h, hc, if_neg (by simp), if_neg (by omega)]
  rfl
theorem NR.take {s f : Nat} {J : Jar} {T : List (List UInt8)} {y : List UInt8} {L : List (List UInt8)} (h : NR s J T f) (hc : J.ck = y :: L) (hT : T.length < 1000) : NR s (takenJ J y L) (T ++ [y]) f ∧ y ∉ T ∧ againJ (takenJ J y L) = (y, 0) := by
  obtain ⟨h1, h2, h3⟩ := validJ_ck h.val
  rw [hc] at h2 h3
  have hsn := h.sent
  have hl : J.ck.length ≤ 8 := h1.2.1
  rw [hc, List.length_cons] at hl
  have hy : y.length = 104 := h2 y (List.mem_cons_self ..)
  have hv : validJ (takenJ J y L) = true := by
    refine validJ_end ⟨h1.1, ?_, .inr hy, ?_, h1.2.2.2.2.1, ?_, ?_⟩ (fun b hb => h2 b (List.mem_cons_of_mem _ hb)) (List.nodup_cons.1 h3).2
    · show L.length ≤ 8; omega
    · show y ∉ L; exact (List.nodup_cons.1 h3).1
    · show 0 ≤ J.sent + 1; omega
    · show J.sent + 1 ≤ 1099511627776; omega
  have hnd := h.nod
  rw [hc] at hnd
  have hmem := h.mem
  rw [hc] at hmem
  refine ⟨⟨hv, ?_, ?_, ?_⟩, ?_, ?_⟩
  · show ((T ++ [y]) ++ L).Nodup; rw [List.append_assoc]; exact hnd
  · show ∀ x ∈ (T ++ [y]) ++ L, _; rw [List.append_assoc]; exact hmem
  · show J.sent + 1 = _; rw [List.length_append, hsn]; rfl
  · intro h4
    exact (List.nodup_append.1 hnd).2.2 y h4 y (List.mem_cons_self ..) rfl
  · unfold againJ
    rw [if_pos hv]
    show (if y.length = 0 then _ else _) = _
    rw [if_neg (by omega)]
    rfl
theorem NR.pos {s f : Nat} {J : Jar} {T : List (List UInt8)} (h : NR s J T f) {x : List UInt8} (hx : x ∈ T ++ J.ck) : x.length = 104 := poolN_104 (h.mem x hx)
end Go.Jar

/- Rows of slices of bytes of the call's own whose block holds no bytes. -/
namespace Go.Sec
open Go.RowKit
theorem Blk.cell?_eq {w : World} {g : Nat} {t : TypeId} {vs : List Value} (h : Blk w g t vs) (k : Nat) : w.cell? ⟨g, k, none⟩ = vs[k]? := by
  rw [cell_of_row w g k _ t (0, 0) h]; simp
/-- A block of slices of bytes in which no byte lies. -/
def NoU8 (w : World) (r : Option Nat) : Prop := ∀ b, r = some b → ∃ cur, Blk w b 25 cur ∧ ∀ v ∈ cur, ∀ x, v ≠ .int .u8 x
theorem NoU8.ext {w w' : World} {r : Option Nat} (h : NoU8 w r) (hx : Ext w w') : NoU8 w' r := fun b hb => (h b hb).imp fun _ ⟨h1, h2⟩ => ⟨h1.extB hx, h2⟩
theorem NoU8.mut {w w' : World} {r : Option Nat} {g : Nat} {t : TypeId} {vs : List Value} (h : NoU8 w r) (hB : Blk w g t vs) (ht : t ≠ 25) (hM : Mut g w w') : NoU8 w' r := fun b hb => by
  obtain ⟨cur, h1, h2⟩ := h b hb
  refine ⟨cur, Blk.turn hM h1 (fun e => ?_), h2⟩
  subst e
  unfold Blk at h1 hB
  rw [h1] at hB
  injection hB with hB
  injection hB with _ hB
  exact ht hB.symm
/-- Bytes lie elsewhere. -/
theorem NoU8.off {w : World} {r : Option Nat} (h : NoU8 w r) {a : Option Addr} {n : Nat} {l : List UInt8} (hS : Sl w a n l) (hn : 0 < n) : Off a r := fun b o e hr => by
  obtain ⟨b', o', e', _, hc⟩ := hS.at 0 hn
  rw [e'] at e
  injection e with e
  injection e with e1 e2
  subst e1 e2
  obtain ⟨cur, h1, h2⟩ := h _ hr
  rw [Blk.cell?_eq h1] at hc
  exact h2 _ (List.mem_of_getElem? hc) _ rfl
theorem mem_zero {k : Nat} {v : Value} (h : v ∈ (Builtin.zeroCells (Value.slice none 0 0).cells k).toList) : v = .slice none 0 0 := by
  unfold Builtin.zeroCells at h
  rw [Array.toList_map, List.mem_map] at h
  obtain ⟨i, _, rfl⟩ := h
  have : (Value.slice none 0 0).cells = #[.slice none 0 0] := rfl
  rw [this]
  simp [Nat.mod_one]
theorem run_append_no {P : Program} (V : S8 P) {w : World} {ty : TypeId} {base : Nat} {sa0 : Option Addr} {n c0 : Nat} {xs : List Value} (hown : w.ownsRow base 25 1 (.slice sa0 n c0) n xs) (hxs : ∀ v ∈ xs, ∀ x, v ≠ .int .u8 x) (hno : NoU8 w (Value.slice sa0 n c0).ownBlock)
    {g : Nat} {an : Option Addr} {nn cn : Nat} (hR : Rd w (some ⟨g, 0, none⟩) [.slice an nn cn]) (hlen : n ≤ 1000000) {sa : Option Addr} {sc : Nat} {w' : World}
    (hrun : (Builtin.append_ #[28, 28] ty #[.slice sa0 n c0, .slice (some ⟨g, 0, none⟩) 1 1]).run P w = .ok (.slice sa (n + 1) sc) w') : NoU8 w' (Value.slice sa (n + 1) sc).ownBlock := by
  obtain ⟨i, hi, hz, hsz, hb⟩ := V.info
  have hnews : ∀ j v, ([.slice an nn cn] : List Value)[j]? = some v → w.cell? ((⟨g, 0, none⟩ : Addr).add j) = some v := fun j v hj => by
    rcases hR with h0 | ⟨b, off, e, hb, hc⟩
    · cases h0
    · injection e with e; injection e with e1 e2; subst e1 e2
      rw [addr_add]; exact hc j v hj
  have hnew : ∀ (A : Array Value), (∀ v ∈ A.toList, ∀ x, v ≠ .int .u8 x) → NoU8 (w.drew.alloc (.cells A 25)) (some w.heap.size) := fun A hA b hb => by
    injection hb with hb
    subst hb
    exact ⟨A.toList, Blk.new w.drew A _, hA⟩
  rcases hown.2 with ⟨h1, h2⟩ | ⟨g', cap, cur, hv, hb', hh, hle, hmax, hcs, htk⟩
  · injection h1 with h1 h3 h4
    subst h1 h3 h4
    rw [run_append_nil (P := P) (w := w) _ ty _ i _ V.sl hi hz ⟨g, 0, none⟩ 1 1 [.slice an nn cn] (by rw [hsz]; rfl) hnews (by omega) (by omega) (by rw [hb]; omega)] at hrun
    injection hrun with e1 e2
    injection e1 with e1 _ _
    subst e1 e2
    refine hnew _ fun v hv x => ?_
    rw [Array.toList_append, List.mem_append] at hv
    rcases hv with hv | hv
    · obtain rfl := List.mem_singleton.1 hv; simp
    · rw [mem_zero hv]; simp
  · injection hv with h1 _ h3
    subst h1 h3
    obtain ⟨cur', hB', hno'⟩ := hno g' rfl
    have hB : Blk w g' 25 cur.toList := by unfold Blk; simpa using hh
    have hcur : ∀ v ∈ cur.toList, ∀ x, v ≠ .int .u8 x := by
      unfold Blk at hB hB'
      rw [hB] at hB'
      injection hB' with hB'
      injection hB' with hB' _ _
      have hB' : cur.toList = cur' := by simpa using congrArg Array.toList hB'
      rw [hB']
      exact hno'
    have hlen' : cur.toList.length = c0 := by simpa using hcs
    by_cases hroom : n + 1 ≤ c0
    · have hcell : ∀ j, j < ([.slice an nn cn] : List Value).length → (w.cell? ⟨g', 0 + n * i.size + j, none⟩).isSome = true ∧ w.frozen? ⟨g', 0 + n * i.size + j, none⟩ = false := fun j hj => by
        obtain rfl : j = 0 := by simpa using hj
        rw [hsz]
        refine ⟨?_, hB.free _⟩
        rw [Blk.cell?_eq hB, List.getElem?_eq_getElem (by omega)]; rfl
      rw [run_append_room_cells (P := P) (w := w) _ ty _ i V.sl hi g' 0 n c0 ⟨g, 0, none⟩ 1 1 [.slice an nn cn] (by rw [hsz]; rfl) hnews (by simp [Value.oneCell']) hroom (fun j hj => (hcell j hj).1) (fun j hj => (hcell j hj).2)] at hrun
      injection hrun with e1 e2
      injection e1 with e1 _ _
      subst e1 e2
      intro b hb
      injection hb with hb
      subst hb
      refine ⟨_, setCells_blk _ _ w cur.toList hB (by rw [hsz]; simp; omega), fun v hv x => ?_⟩
      rw [List.mem_append, List.mem_append] at hv
      rcases hv with (hv | hv) | hv
      · exact hcur v (List.mem_of_mem_take hv) x
      · obtain rfl := List.mem_singleton.1 hv; simp
      · exact hcur v (List.mem_of_mem_drop hv) x
    · rw [run_append_grow (P := P) (w := w) _ ty _ i _ V.sl hi hz ⟨g', 0, none⟩ n c0 xs (by rw [hsz]; exact hown.1) (fun j v hj => by
        rw [addr_add, Blk.cell?_eq hB, Nat.zero_add]
        rw [← htk, Nat.mul_one, List.getElem?_take] at hj
        split at hj
        · exact hj
        · cases hj) ⟨g, 0, none⟩ 1 1 [.slice an nn cn] (by rw [hsz]; rfl) hnews (by omega) (by omega) (by rw [hb]; exact growslice_fits (by omega) (by omega))] at hrun
      injection hrun with e1 e2
      injection e1 with e1 _ _
      subst e1 e2
      refine hnew _ fun v hv x => ?_
      rw [Array.toList_append, Array.toList_append, List.mem_append, List.mem_append] at hv
      rcases hv with (hv | hv) | hv
      · exact hxs v hv x
      · obtain rfl := List.mem_singleton.1 hv; simp
      · rw [mem_zero hv]; simp
/-- The call's own row of slices of bytes, with no byte in its block. -/
structure OwnS (w : World) (base : Nat) (a : Option Addr) (n c : Nat) (L : List (List UInt8)) : Prop where
  own : OwnT w base a n c L
  no : NoU8 w (Value.slice a n c).ownBlock
section
variable {w w' : World} {base n c : Nat} {a : Option Addr} {L : List (List UInt8)}
theorem OwnS.nil (w : World) (base : Nat) : OwnS w base none 0 0 [] := ⟨OwnT.nil _ _, fun _ h => by cases h⟩
theorem OwnS.ext (h : OwnS w base a n c L) (hx : Ext w w') : OwnS w' base a n c L := ⟨h.own.ext hx, h.no.ext hx⟩
theorem OwnT.mut {t : TypeId} {g : Nat} {vs : List Value} (h : OwnT w base a n c L) (hB : Blk w g t vs) (ht : t ≠ 25) (hne : ∀ v ∈ vs, ∀ x, v ≠ .int .u8 x) (hM : Mut g w w') : OwnT w' base a n c L := by
  have hno := h.ownB.blk hB ht
  obtain ⟨h1, xs, h2, h3, h4⟩ := h
  refine ⟨h1, xs, ⟨h2.1, ?_⟩, h3, fun k hk => ?_⟩
  · rcases h2.2 with h | ⟨g', cap, cur, hv, hb, hh, r⟩
    · exact .inl h
    · refine .inr ⟨g', cap, cur, hv, hb, ?_, r⟩
      rw [hM.block g' (Array.getElem?_eq_some_iff.1 hh).1 (fun e => hno (by rw [hv]; exact e))]
      exact hh
  · obtain ⟨a', n', c', e1, e2, e3, e4⟩ := h4 k hk
    refine ⟨a', n', c', e1, e2, e3.mut hB hne hM, ?_⟩
    rcases e4 with e4 | e4
    · exact .inl e4
    · by_cases h0 : n' = 0
      · exact .inl h0
      · refine .inr fun b o e => ?_
        rcases e4 b o e with h | ⟨t', vs', hB', ht'⟩
        · exact .inl h
        · refine .inr ⟨t', vs', Blk.turn hM hB' ?_, ht'⟩
          subst e
          exact sl_off_blk e3 (by omega) hB hne
theorem OwnS.mut {t : TypeId} {g : Nat} {vs : List Value} (h : OwnS w base a n c L) (hB : Blk w g t vs) (ht : t ≠ 25) (hne : ∀ v ∈ vs, ∀ x, v ≠ .int .u8 x) (hM : Mut g w w') : OwnS w' base a n c L := ⟨h.own.mut hB ht hne hM, h.no.mut hB ht hM⟩
theorem OwnS.lt (h : OwnS w base a n c L) {g : Nat} (hg : (Value.slice a n c).ownBlock = some g) : g < w.heap.size := by
  obtain ⟨cur, h1, _⟩ := h.no g hg
  exact h1.lt
/-- Rows of slices of bytes stay where such a row grows. -/
theorem Bsc.grownS {m : Nat} {b : Option Addr} {M : List (List UInt8)} (h : Bsc w b m M) (hpos : ∀ x ∈ M, 0 < x.length) (hO : OwnS w base a n c L) (hg : w.grownBy w' (Value.slice a n c).ownBlock) (hne : Off b (Value.slice a n c).ownBlock) : Bsc w' b m M := by
  refine ⟨h.len, h.row.imp id ?_⟩
  rintro ⟨b0, off, ha, hb, hc⟩
  refine ⟨b0, off, ha, Nat.lt_of_lt_of_le hb hg.size, fun k hk => ?_⟩
  obtain ⟨a', n', c', h1, h3, h2⟩ := hc k hk
  refine ⟨a', n', c', (World.cell?_of_block (hg.block b0 hb (fun e => hne b0 off ha e.symm))).trans h1, h3, h2.grown hg (hO.no.off h2 ?_)⟩
  rw [← h2.len]
  exact hpos _ (List.getElem_mem hk)
theorem wpList_append_oneS {P : Program} (V : S8 P) {w : World} {ops : Array Oper} {rest : List Oper} {o : Oper} {a : Act} {Q : Exit → Act → World → Prop} (hgd : o.guard = none) (s x : Operand)
    (ho : o.op = .call { callee := .builtin .append, args := #[s, x], argTypes := #[28, 28] })
    (base : Nat) (sa0 : Option Addr) (n c0 : Nat) (L : List (List UInt8)) (hs : a.eval s = .slice sa0 n c0) (g : Nat) (hx : a.eval x = .slice (some ⟨g, 0, none⟩) 1 1)
    (hown : OwnS w base sa0 n c0 L) (an : Option Addr) (nn cn : Nat) (l : List UInt8) (hR : Rd w (some ⟨g, 0, none⟩) [.slice an nn cn]) (hS : Sl w an nn l) (hc : nn ≤ cn) (hl : InB w 0 an nn)
    (hlen : n ≤ 1000000) (hbase : base ≤ w.heap.size)
    (h : ∀ sa sc w', OwnS w' base sa (n + 1) sc (L ++ [l]) → w.grownBy w' (Value.slice sa0 n c0).ownBlock → Below base w w' → wpList P ops Q rest (a.put o.dst (.slice sa (n + 1) sc)) w') :
    wpList P ops Q (o :: rest) a w := by
  obtain ⟨i, hi, hz, hsz, hb⟩ := V.info
  obtain ⟨⟨hL, xs, h2, h3, h4⟩, hno⟩ := hown
  obtain ⟨sa, sc, w', hrun, e1, e2, _⟩ := run_append_srcL (P := P) w base _ o.type 25 i _ 24 V.sl hi hz hsz hb rfl _ n _ h2 (some ⟨g, 0, none⟩) 1 1 _ hR rfl (fun u hu => by
    simp only [List.mem_singleton] at hu; subst hu; rfl) (by simp only [maxLen]; omega) (by omega) hbase
  have hno' := run_append_no V h2 (fun v hv x => by
    obtain ⟨k, hk, rfl⟩ := List.getElem_of_mem hv
    obtain ⟨a', n', c', e1, _⟩ := h4 k (by omega)
    rw [List.getElem?_eq_getElem hk] at e1
    injection e1 with e1
    rw [e1]; simp) hno hR hlen hrun
  have := h sa sc w' ⟨OwnT.snoc hL e2 hS hc hl h2 h3 h4 e1, hno'⟩ e2 (grown_below h2 e2 hbase)
  refine wpList_plain hgd fun K hK => ?_
  unfold Oper.wp execOp
  simp only [ho, resolve, invoke, builtin, Sem.run_bind, Sem.run_pure, Result.andThen_ok, List.map_toArray, List.map_cons, List.map_nil, hs, hx, hrun]
  exact hK _ _ this
end
end Go.Sec

/- Layer 22: what the functions of a jar hand back for the jars of JarNeverRepeats. -/
namespace Go.Jar
open Go.RowKit Go.Sec Go.Oct Go.Sha
/-- The parts of a jar in memory. -/
structure JarM (J : Jar) (nc nl : Nat) (b1 b2 b3 b4 : Option Addr) (d1 d2 d3 d4 : Nat) (w : World) : Prop where
  up : Sl w b1 32 J.up
  k1 : 32 ≤ d1
  dn : Sl w b2 32 J.dn
  k2 : 32 ≤ d2
  ck : Bsc w b3 nc J.ck
  k3 : nc ≤ d3
  la : Sl w b4 nl J.last
  k4 : nl ≤ d4
section
variable {J : Jar} {nc nl d1 d2 d3 d4 : Nat} {b1 b2 b3 b4 : Option Addr} {w w' : World}
theorem JarM.ext (h : JarM J nc nl b1 b2 b3 b4 d1 d2 d3 d4 w) (hx : Ext w w') : JarM J nc nl b1 b2 b3 b4 d1 d2 d3 d4 w' :=
  ⟨h.up.ext hx, h.k1, h.dn.ext hx, h.k2, h.ck.ext hx, h.k3, h.la.ext hx, h.k4⟩
theorem JarM.mut {g : Nat} {t : TypeId} {vs : List Value} (h : JarM J nc nl b1 b2 b3 b4 d1 d2 d3 d4 w) (hT : Typ3 w b3) (hB : Blk w g t vs) (ht : t ≠ 25) (hv : ∀ v ∈ vs, ∀ x, v ≠ .int .u8 x) (hM : Mut g w w') : JarM J nc nl b1 b2 b3 b4 d1 d2 d3 d4 w' :=
  ⟨h.up.mut hB hv hM, h.k1, h.dn.mut hB hv hM, h.k2, h.ck.mutNe (hT.ne hB ht) hB hv hM, h.k3, h.la.mut hB hv hM, h.k4⟩
theorem JarM.grownS {base n c : Nat} {a : Option Addr} {L : List (List UInt8)} (h : JarM J nc nl b1 b2 b3 b4 d1 d2 d3 d4 w) (hpos : ∀ x ∈ J.ck, 0 < x.length) (hO : OwnS w base a n c L) (hg : w.grownBy w' (Value.slice a n c).ownBlock) (hne : Off b3 (Value.slice a n c).ownBlock) : JarM J nc nl b1 b2 b3 b4 d1 d2 d3 d4 w' := by
  refine ⟨h.up.grown hg (hO.no.off h.up (by omega)), h.k1, h.dn.grown hg (hO.no.off h.dn (by omega)), h.k2, h.ck.grownS hpos hO hg hne, h.k3, ?_, h.k4⟩
  by_cases h0 : nl = 0
  · subst h0
    have := List.eq_nil_of_length_eq_zero h.la.len
    rw [this]
    exact Sl.nil _ _
  · exact h.la.grown hg (hO.no.off h.la (by omega))
end
theorem NR.sizes {s f : Nat} {J : Jar} {T : List (List UInt8)} (h : NR s J T f) : J.ck.length ≤ 8 ∧ J.last.length ≤ 104 ∧ J.up.length = 32 ∧ J.dn.length = 32 := by
  obtain ⟨h1, _, _⟩ := validJ_ck h.val
  exact ⟨h1.2.1, by rcases h1.2.2.1 with h | h <;> omega, h1.1.1, h1.1.2⟩
end Go.Jar
namespace Go.Proofs.Ytdmifbfgeeldnaa
open Go.RowKit Go.Sec Go.Oct Go.Jar Go.Pkt Go.Sha BigFrame
/-- A jar and no error. -/
def JarR (J : Jar) (w : World) (e : Ending) (w' : World) : Prop := ∃ b1 d1 b2 d2 b3 nc d3 b4 nl d4, e = .returned (.tuple #[.agg #[.slice b1 32 d1, .slice b2 32 d2, .slice b3 nc d3, .slice b4 nl d4, .int .i64 J.net, .int .i64 J.sent], .int .i64 0]) ∧
  JarM J nc nl b1 b2 b3 b4 d1 d2 d3 d4 w' ∧ Typ3 w' b3 ∧ Ext w w'
theorem jarR_of {J : Jar} (h1 : J.up.length = 32) (h2 : J.dn.length = 32) {f : FuncId} {args : Array Value} {w : World} (h : Calls Try.prog f args w (JarE (J, 0) w)) : Calls Try.prog f args w (JarR J w) := by
  refine h.mono ?_
  rintro e w' ⟨b1, m1, e1, b2, m2, e2, b3, m3, e3, b4, m4, e4, rfl, g1, g2, g3, g4, g5, g6, hx⟩
  have l1 : m1 = 32 := by rw [← g1.1]; exact h1
  have l2 : m2 = 32 := by rw [← g2.1]; exact h2
  subst l1 l2
  exact ⟨b1, e1, b2, e2, b3, m3, e3, b4, m4, e4, rfl, ⟨g1.sl, g1.le.1, g2.sl, g2.le.1, g3, g4, g6.sl, g6.le.1⟩, g5, hx⟩
def JarRV (J : Jar) (p : Par) : Value := .tuple #[.agg #[.slice (p 0).1 32 (p 0).2, .slice (p 1).1 32 (p 1).2, .slice (p 2).1 (p 4).2 (p 2).2, .slice (p 3).1 (p 5).2 (p 3).2, .int .i64 J.net, .int .i64 J.sent], .int .i64 0]
def JarRP (J : Jar) (p : Par) (w : World) : Prop := JarM J (p 4).2 (p 5).2 (p 0).1 (p 1).1 (p 2).1 (p 3).1 (p 0).2 (p 1).2 (p 2).2 (p 3).2 w ∧ Typ3 w (p 2).1
theorem JarRP.ext {J : Jar} {p : Par} {w w' : World} (h : JarRP J p w) (hx : Ext w w') : JarRP J p w' := ⟨h.1.ext hx, h.2.ext hx⟩
theorem vag_jarR {J : Jar} {f : FuncId} {args : Array Value} {w : World} (h : Calls Try.prog f args w (JarR J w)) : Calls Try.prog f args w fun e w' => ∃ v, e = .returned v ∧ ∃ p : Par, v = JarRV J p ∧ Ext w w' ∧ JarRP J p w' := by
  refine h.mono ?_
  rintro e w' ⟨b1, d1, b2, d2, b3, nc, d3, b4, nl, d4, rfl, g1, g2, hx⟩
  exact ⟨_, rfl, fun i => if i = 0 then (b1, d1) else if i = 1 then (b2, d2) else if i = 2 then (b3, d3) else if i = 3 then (b4, d4) else if i = 4 then (none, nc) else (none, nl), rfl, hx, g1, g2⟩
section
variable {s f nc nl d1 d2 d3 d4 : Nat} {J : Jar} {T : List (List UInt8)} {b1 b2 b3 b4 : Option Addr} {w : World}
theorem put_R (h : NR s J T f) (hs : s < 1000) {c : Nat} (hc : f + c ≤ 100) (hM : JarM J nc nl b1 b2 b3 b4 d1 d2 d3 d4 w) (a : Option Addr) (n k : Nat) (hL : Bsc w a n (freshW s f c)) :
    Calls Try.prog 8 #[.agg #[.slice b1 32 d1, .slice b2 32 d2, .slice b3 nc d3, .slice b4 nl d4, .int .i64 J.net, .int .i64 J.sent], .slice a n k] w (JarR (addJ J (freshW s f c)) w) := by
  obtain ⟨s1, s2, s3, s4⟩ := h.sizes
  have hl := hL.len
  rw [freshW_length] at hl
  have hn := hM.ck.len
  have hn2 := hM.la.len
  have := jput_any b1 b2 b3 b4 a 32 d1 32 d2 nc d3 nl d4 n k J (freshW s f c) w hM.up (by omega) hM.dn (by omega) hM.ck hM.k3 (by omega) (fun y hy => by have := h.pos (List.mem_append_right _ hy); omega) hM.la (by omega) hL (by omega) (fun y hy => by have := freshW_104 hy; omega)
  rw [putJ_NR h.val] at this
  obtain ⟨r1, r2, _⟩ := addJ_rest J (freshW s f c)
  exact jarR_of (by rw [r1]; exact s3) (by rw [r2]; exact s4) this
theorem move_R (h : NR s J T f) {n : Int} (hn0 : 0 ≤ n) (hM : JarM J nc nl b1 b2 b3 b4 d1 d2 d3 d4 w) :
    Calls Try.prog 9 #[.agg #[.slice b1 32 d1, .slice b2 32 d2, .slice b3 nc d3, .slice b4 nl d4, .int .i64 J.net, .int .i64 J.sent], .int .i64 n] w (JarR (movedJ J n) w) := by
  obtain ⟨s1, s2, s3, s4⟩ := h.sizes
  have hn := hM.ck.len
  have hn2 := hM.la.len
  have := jmove_any b1 b2 b3 b4 32 d1 32 d2 nc d3 nl d4 J n w hM.up (by omega) hM.dn (by omega) hM.ck hM.k3 (by omega) (fun y hy => by have := h.pos (List.mem_append_right _ hy); omega) hM.la (by omega)
  rw [moveJ_NR h.val hn0] at this
  obtain ⟨_, _, t3, t4⟩ := (h.move hn0).sizes
  exact jarR_of t3 t4 this
/-- A jar, a cookie and no error. -/
def TakeR (J : Jar) (y : List UInt8) (w : World) (e : Ending) (w' : World) : Prop := ∃ b1 d1 b2 d2 b3 nc d3 b4 nl d4 b5 d5, e = .returned (.tuple #[.agg #[.slice b1 32 d1, .slice b2 32 d2, .slice b3 nc d3, .slice b4 nl d4, .int .i64 J.net, .int .i64 J.sent], .slice b5 104 d5, .int .i64 0]) ∧
  JarM J nc nl b1 b2 b3 b4 d1 d2 d3 d4 w' ∧ Typ3 w' b3 ∧ (∀ b o, b3 = some ⟨b, o, none⟩ → w.heap.size ≤ b) ∧ Own w' 0 b5 104 d5 y ∧ Ext w w'
theorem take_R (h : NR s J T f) (hT : T.length < 1000) {y : List UInt8} {L : List (List UInt8)} (hc : J.ck = y :: L) (hM : JarM J nc nl b1 b2 b3 b4 d1 d2 d3 d4 w) :
    Calls Try.prog 10 #[.agg #[.slice b1 32 d1, .slice b2 32 d2, .slice b3 nc d3, .slice b4 nl d4, .int .i64 J.net, .int .i64 J.sent]] w (TakeR (takenJ J y L) y w) := by
  obtain ⟨s1, s2, s3, s4⟩ := h.sizes
  have hn := hM.ck.len
  have hn2 := hM.la.len
  have hsn := h.sent
  have hy : y.length = 104 := h.pos (List.mem_append_right _ (by rw [hc]; exact List.mem_cons_self ..))
  have := jtake_any b1 b2 b3 b4 32 d1 32 d2 nc d3 nl d4 J w hM.up (by omega) hM.dn (by omega) hM.ck hM.k3 (by omega) (fun y hy => by have := h.pos (List.mem_append_right _ hy); omega) hM.la (by omega) (.inl (by omega))
  rw [takeJ_NR h.val hc (by omega)] at this
  refine this.mono ?_
  rintro e w' ⟨c1, m1, e1, c2, m2, e2, c3, m3, e3, c4, m4, e4, c5, m5, e5, rfl, g1, g2, g3, g4, g5, g6, g7, g8, ht, hx⟩
  have l1 : m1 = 32 := by rw [← g1.1]; exact s3
  have l2 : m2 = 32 := by rw [← g2.1]; exact s4
  have l5 : m5 = 104 := by rw [← g7.1]; exact hy
  subst l1 l2 l5
  exact ⟨c1, e1, c2, e2, c3, m3, e3, c4, m4, e4, c5, e5, rfl, ⟨g1.sl, g1.le.1, g2.sl, g2.le.1, g3, g4, g5, g6⟩, ht, g8, g7, hx⟩
theorem again_R (h : NR s J T f) {y : List UInt8} (hy : y.length = 104) (hc : againJ J = (y, 0)) (hM : JarM J nc nl b1 b2 b3 b4 d1 d2 d3 d4 w) :
    Calls Try.prog 12 #[.agg #[.slice b1 32 d1, .slice b2 32 d2, .slice b3 nc d3, .slice b4 nl d4, .int .i64 J.net, .int .i64 J.sent]] w fun e w' => ∃ b d, e = .returned (.tuple #[.slice b 104 d, .int .i64 0]) ∧ Sl w' b 104 y ∧ Ext w w' := by
  obtain ⟨s1, s2, s3, s4⟩ := h.sizes
  have hn := hM.ck.len
  have hn2 := hM.la.len
  have := jagain_any b1 b2 b3 b4 32 d1 32 d2 nc d3 nl d4 J w hM.up hM.dn hM.ck hM.k3 (by omega) hM.la (by omega)
  rw [hc] at this
  refine this.mono ?_
  rintro e w' ⟨b, d, rfl, hO, hx⟩
  have hO : Own w' 0 b y.length d y := hO
  refine ⟨b, d, ?_, ?_, hx⟩
  · show Ending.returned (.tuple #[.slice b y.length d, .int .i64 0]) = _
    rw [hy]
  · rw [hy] at hO; exact hO.sl
theorem valid_R (h : NR s J T f) (hM : JarM J nc nl b1 b2 b3 b4 d1 d2 d3 d4 w) :
    Calls Try.prog 13 #[.agg #[.slice b1 32 d1, .slice b2 32 d2, .slice b3 nc d3, .slice b4 nl d4, .int .i64 J.net, .int .i64 J.sent]] w fun e w' => e = .returned (.bool true) ∧ Ext w w' := by
  obtain ⟨s1, s2, s3, s4⟩ := h.sizes
  have hn := hM.ck.len
  have := jvalid_any b1 b2 b3 b4 32 d1 32 d2 nc d3 nl d4 J w hM.up hM.dn hM.ck hM.k3 (by omega) hM.la
  rwa [h.val] at this
end
end Go.Proofs.Ytdmifbfgeeldnaa

/- Layer 22: the law JarNeverRepeats. -/
namespace Go.Proofs.Ytdmifbfgeeldnaa
open Go.RowKit Go.Sec Go.Oct Go.Jar Go.Pkt Go.Sha BigFrame

set_option maxRecDepth 100000 in
set_option maxHeartbeats 1000000 in
theorem jarNeverRepeats_walk (seed : Int) (a : Option Addr) (n c : Nat) (L : List Int) (w : World) (hl : L.length = n) (hL : Rd w a (L.map i64v)) (_hc : n ≤ c) (hwf : ∀ x ∈ L, (Lit.int .i64 x).wf = true) :
    Calls Try.prog 3 #[.int .i64 seed, .slice a n c] w fun e w' => e = .returned (.bool true) ∧ Ext w w' := by
  have hkn := fun W => known22_any W
  by_cases q1 : 25 < n
  · have i1 : (25 : Int) < (n : Int) := by omega
    clear hL
    go_enter Try.func3, Try.ntmps3
    go_wp2_with fail
    (with_reducible refine (hkn _).mono ?_); rintro e w1 ⟨rfl, hx1⟩
    go_wp2_with fail
    go_ret
    exact ⟨rfl, hx1⟩
  have i1 : ¬ (25 : Int) < (n : Int) := by omega
  obtain ⟨s, hs, es⟩ := nmod seed 1000 (by omega)
  have es : seed % 1000 = (s : Int) := es
  have hw1 := fun W => within_any seed 1000 W (by omega) (by omega)
  rw [es] at hw1
  have hwj : ∀ W, Calls Try.prog 6 #[.int .i64 (s : Int), .int .i64 3] W (WJarO s 3 W) := fun W => wjar_any s 3 3 rfl W (by omega) (by omega)
  clear es
  go_enter Try.func3, Try.ntmps3
  go_wp2_with fail
  (with_reducible refine (hw1 _).mono ?_); rintro e w1 ⟨rfl, hx1⟩
  go_wp2_with fail
  (with_reducible refine (hwj _).mono ?_); rintro e w2 ⟨b1, e1, b2, e2, b3, e3, rfl, h1, k1, h2, k2, h3, k3, hx2⟩
  have hE2 := hx1.trans hx2
  clear hw1 hwj hx1 hx2
  go_wp2_with (first
    | (refine wpList_alloc_store (RJ6) rfl rfl _ _ rfl rfl rfl rfl (by simp [Act.put]) ([.slice b1 32 e1, .slice b2 32 e2, .slice b3 3 e3, .slice none 0 0, .int .i64 1, .int .i64 0]) rfl (by simp) (rfl) ((by simp; repeat' (first | rfl | constructor))) ?_; intro x hz _)
    | fail)
  have hxx : Ext w2 (w2.ext x) := Ext.of_ext _ _
  have hE := hE2.trans hxx
  have hgw : w.heap.size ≤ w2.heap.size := hE2.size
  have hgB : w2.heap.size < (w2.ext x).heap.size := hz.lt
  have hM : JarM (jarW s 3) 3 0 b1 b2 b3 none e1 e2 e3 0 (w2.ext x) := ⟨h1.ext hxx, k1, h2.ext hxx, k2, h3.ext hxx, k3, Sl.nil _ _, Nat.le_refl _⟩
  have hN := NR.start (s := s) hs
  obtain ⟨g0, hg0⟩ : ∃ g, g = w2.heap.size := ⟨_, rfl⟩
  rw [← hg0] at hz hgw hgB ⊢
  clear hxx hE2 hg0 h1 h2 h3 k1 k2 k3
  generalize w2.ext x = V1 at *
  obtain ⟨B, hB⟩ : ∃ B, B = V1.heap.size := ⟨_, rfl⟩
  have hBw : w.heap.size ≤ B := by omega
  have hgB : g0 < B := by omega
  go_loopw [6, 7, 8] (fun v6 v7 v8 wr => ∃ (i f t : Nat) (J : Jar) (T : List (List UInt8)) (ta : Option Addr) (tc : Nat) (b1 b2 b3 b4 : Option Addr) (e1 e2 e3 e4 nc nl : Nat), i ≤ n ∧ v8 = .int .i64 i ∧ v7 = .int .i64 f ∧ v6 = .slice ta t tc ∧ f ≤ 4 * i ∧ t ≤ i ∧ T.length = t ∧ Blk wr g0 30 [.slice b1 32 e1, .slice b2 32 e2, .slice b3 nc e3, .slice b4 nl e4, .int .i64 J.net, .int .i64 J.sent] ∧ JarM J nc nl b1 b2 b3 b4 e1 e2 e3 e4 wr ∧ NR s J T f ∧ OwnS wr B ta t tc T ∧ B ≤ wr.heap.size ∧ Ext w wr) (fun _ _ v8 _ => n - (intOf v8).toNat)
  case atStart => exact ⟨0, 0, 0, jarW s 3, [], none, 0, b1, b2, b3, none, e1, e2, e3, 0, 3, 0, by omega, rfl, rfl, rfl, by omega, by omega, rfl, hz, hM, hN, OwnS.nil _ _, by omega, hE⟩
  case round =>
    clear hz hM hN hE hB
    obtain ⟨i, f, t, J, T, ta, tc, b1, b2, b3, b4, e1, e2, e3, e4, nc, nl, hi, rfl, rfl, rfl, hf4, hti, hTt, hz, hM, hN, hT, hBs, hE⟩ := hrel
    by_cases hlt : i < n
    · have j1 : (i : Int) < (n : Int) := by omega
      have hil : i < L.length := by omega
      obtain ⟨b0, o0, rfl, hb0, hcell⟩ := (hL.ext hE).at i (by simpa using hil)
      rw [List.getElem_map] at hcell
      have hxwf := hwf _ (List.getElem_mem hil)
      generalize L[i] = y at hcell hxwf
      obtain ⟨kd, hkd, ekd⟩ := nmod y 4 (by omega)
      have ekd : y % 4 = (kd : Int) := ekd
      have hw4 := fun W => within_any y 4 W (by omega) (by omega)
      rw [ekd] at hw4
      haveI := hb0
      go_wp2_with fail
      (with_reducible refine (hw4 _).mono ?_); rintro e w3 ⟨rfl, hx3⟩
      have hcell := (hx3.cell (p := ⟨b0, o0 + i, none⟩) hb0.lt).trans hcell
      haveI : BlkLt b0 w3 := ⟨Nat.lt_of_lt_of_le hb0.lt hx3.size⟩
      have hz := hz.extB hx3
      have hM := hM.ext hx3
      have hT := hT.ext hx3
      have hBs := Nat.le_trans hBs hx3.size
      have hE := hE.trans hx3
      clear hx3 hw4
      by_cases k0 : kd = 0
      · subst k0
        obtain ⟨m, hm, em⟩ := nmod (wrap64 (y.tdiv 4)) 4 (by omega)
        have em : wrap64 (y.tdiv 4) % 4 = (m : Int) := em
        have hw5 := fun W => within_any (wrap64 (y.tdiv 4)) 4 W (by omega) (by omega)
        rw [em] at hw5
        clear em ekd
        obtain ⟨B2, hB2⟩ : ∃ B, B = w3.heap.size := ⟨_, rfl⟩
        go_wp2_with fail
        go_loopw [7, 10, 11] (fun v7 v10 v11 wr => ∃ (j : Nat) (ca : Option Addr) (cc : Nat), j ≤ m + 1 ∧ v11 = .int .i64 j ∧ v7 = .int .i64 ((f + j : Nat) : Int) ∧ v10 = .slice ca j cc ∧ OwnT wr B2 ca j cc (freshW s f j) ∧ Ext w3 wr) (fun _ _ v11 _ => m + 1 - (intOf v11).toNat)
        case atStart => exact ⟨0, none, 0, by omega, rfl, rfl, rfl, OwnT.nil _ _, Below.refl _ _⟩
        case round =>
          obtain ⟨j, ca, cc, hj, rfl, rfl, rfl, hO, hX⟩ := hrel
          have hcell2 := (hX.cell (p := ⟨b0, o0 + i, none⟩) BlkLt.lt).trans hcell
          haveI : BlkLt b0 wr := ⟨Nat.lt_of_lt_of_le BlkLt.lt hX.size⟩
          go_wp2_with fail
          (with_reducible refine (hw5 _).mono ?_)
          rintro e w5 ⟨rfl, hx5⟩
          have hO := hO.ext hx5
          have hX := hX.trans hx5
          clear hx5
          by_cases hlt : j < m + 1
          · have j2 : (j : Int) ≤ (m : Int) := by omega
            have hmul : (5000000 : Int) * ((f : Int) + (j : Int) + 1) ≤ 600000000 := by omega
            have hsI : (s : Int) ≤ 1000000 := by omega
            have hi9 : (f : Int) + (j : Int) + 1 ≤ 200 := by omega
            have hi8 : (f : Int) ≤ 200 := by omega
            have hi7 : (j : Int) ≤ 200 := by omega
            have hby := fun V => wbytes_any (s + 5000000 * (f + j + 1)) 104 (show (s : Int) + 5000000 * ((f : Int) + (j : Int) + 1) = ((s + 5000000 * (f + j + 1) : Nat) : Int) by omega) (show (104 : Int) = ((104 : Nat) : Int) from rfl) V (by omega) (by omega)
            have hck := Lib.hid (freshW_succ s f j)
            generalize wbytes (s + 5000000 * (f + j + 1)) 104 = X at *
            go_wp2_with fail
            (with_reducible refine (hby _).mono ?_)
            rintro e w6 ⟨a6, c6, rfl, hO6, hx6⟩
            have hO := hO.ext hx6
            have hX := hX.trans hx6
            clear hx6 hby
            go_wp2_with (first
              | (at_builtin; refine wpList_append_oneT V8 rfl _ _ rfl B2 ca j cc (freshW s f j) rfl w6.heap.size rfl (hO.ext (Ext.of_alloc _ _)) a6 104 c6 X (Blk.new w6 #[.slice a6 104 c6] 25).rd (hO6.ext (Ext.of_alloc _ _)).sl hO6.le.1 (Own.inBlk (hO6.ext (Ext.of_alloc _ _))) (by omega) (by have := hX.size; have := (Ext.of_alloc w6 (.cells #[.slice a6 104 c6] 25)).size; omega) ?_; intro sa sc w7 hO7 hg7 hb7)
              | fail)
            go_roundw
            case rel => exact ⟨j + 1, sa, sc, by omega, by go_num, by go_num, rfl, by rw [hck.out]; exact hO7, (show Ext w3 w7 from Below.trans (hX.trans (Ext.of_alloc _ _)) (hb7.mono (show w3.heap.size ≤ B2 by omega)))⟩
            case measure => simp [intOf]; omega
          · obtain rfl : j = m + 1 := by omega
            have j2 : ¬ ((m + 1 : Nat) : Int) ≤ (m : Int) := by omega
            have hz := hz.extB hX
            have hM := hM.ext hX
            have hT := hT.ext hX
            have hBs := Nat.le_trans hBs hX.size
            have hE := hE.trans hX
            have hpu := fun W H1 H2 => put_R (w := W) hN hs (c := m + 1) (by omega) (b1 := b1) (b2 := b2) (b3 := b3) (b4 := b4) (d1 := e1) (d2 := e2) (d3 := e3) (d4 := e4) (nc := nc) (nl := nl) H1 ca (m + 1) cc H2
            have hN := hN.put hs (m + 1) (by omega)
            have hf4 : f + (m + 1) ≤ 4 * (i + 1) := by omega
            generalize addJ J (freshW s f (m + 1)) = J2 at *
            go_wp2_with (first
              | (refine wpList_load_arr (RJ6) rfl _ rfl (g0) (0) rfl ([.slice b1 32 e1, .slice b2 32 e2, .slice b3 nc e3, .slice b4 nl e4, .int .i64 J.net, .int .i64 J.sent]) (hz.rd) (rfl) ?_)
              | fail)
            (with_reducible refine (hpu _ hM hO.ownB.bsc).mono ?_)
            rintro e w6 ⟨p1, x1, p2, x2, p3, mc, x3, p4, ml, x4, rfl, hM, ht, hx6⟩
            have hz := hz.extB hx6
            have hT := hT.ext hx6
            have hBs := Nat.le_trans hBs hx6.size
            have hE := hE.trans hx6
            clear hx6 hpu hO hX
            go_wp2_with (first
              | (refine wpList_store_arr (RJ6) rfl _ _ rfl (g0) (0) rfl ([.slice p1 32 x1, .slice p2 32 x2, .slice p3 mc x3, .slice p4 ml x4, .int .i64 J2.net, .int .i64 J2.sent]) rfl (30) _ (hz) (rfl) (by simp) ((by simp; repeat' (first | rfl | constructor))) ?_; intro w7 hz7 hM7)
              | (refine wpList_wanted (by simp [Region.wanted, yielded, Act.put]) ?_; (refine wpList_load_arr (RJ6) rfl _ rfl (g0) (0) rfl ([.slice p1 32 x1, .slice p2 32 x2, .slice p3 mc x3, .slice p4 ml x4, .int .i64 J2.net, .int .i64 J2.sent]) ((show Blk w7 g0 30 [.slice p1 32 x1, .slice p2 32 x2, .slice p3 mc x3, .slice p4 ml x4, .int .i64 J2.net, .int .i64 J2.sent] from hz7).rd) (rfl) ?_))
              | fail)
            have hM := hM.mut ht hz (by decide) (by simp) hM7
            have hT := hT.mut hz (by decide) (by simp) hM7
            have hBs := Nat.le_trans hBs hM7.size
            have hE : Ext w w7 := Below.trans hE (hM7.below hgw hE.size)
            have hz : Blk w7 g0 30 [.slice p1 32 x1, .slice p2 32 x2, .slice p3 mc x3, .slice p4 ml x4, .int .i64 J2.net, .int .i64 J2.sent] := hz7
            clear hz7 hM7 ht
            have hva := fun W H => valid_R (w := W) hN (b1 := p1) (b2 := p2) (b3 := p3) (b4 := p4) (d1 := x1) (d2 := x2) (d3 := x3) (d4 := x4) (nc := mc) (nl := ml) H
            have hsz := hN.sizes
            have hml := hM.ck.len
            have n8 : ¬ (8 : Int) < (mc : Int) := by omega
            (with_reducible refine (hva _ hM).mono ?_)
            rintro e w20 ⟨rfl, hx20⟩
            have hz := hz.extB hx20
            haveI := hz.blt
            have f2 := hz.cell? 2 rfl
            go_wp2_with fail
            go_roundw
            case rel => exact ⟨i + 1, (f + (m + 1)), t, J2, T, ta, tc, p1, p2, p3, p4, x1, x2, x3, x4, mc, ml, by omega, by go_num, rfl, rfl, by omega, by omega, by first | exact hTt | (rw [List.length_append, hTt]; rfl), hz, hM.ext hx20, hN, hT.ext hx20, Nat.le_trans hBs hx20.size, hE.trans hx20⟩
            case measure => simp [intOf]; omega
      · by_cases k1 : kd = 1
        · subst k1
          obtain ⟨m, hm, em⟩ := nmod (IntKind.i64.wrap (y.tdiv 4)) 3 (by omega)
          have em : IntKind.i64.wrap (y.tdiv 4) % 3 = (m : Int) := em
          have hw5 := fun W => within_any (IntKind.i64.wrap (y.tdiv 4)) 3 W (by omega) (by omega)
          rw [em] at hw5
          have hmo := fun W H => move_R (w := W) hN (n := (m : Int)) (by omega) (b1 := b1) (b2 := b2) (b3 := b3) (b4 := b4) (d1 := e1) (d2 := e2) (d3 := e3) (d4 := e4) (nc := nc) (nl := nl) H
          have hN := hN.move (n := (m : Int)) (by omega)
          generalize movedJ J (m : Int) = J2 at *
          clear em ekd
          go_wp2_with fail
          refine R2.wp_region_vagueZ 11 [[], [], [], [1, 2], [1, 2, 3], [1, 2, 3, 4], [1, 2, 3, 4, 5], [0, 1, 2, 3, 4, 5, 6], [0, 1, 2, 3, 4, 5, 6, 7], [0, 1, 2, 3, 4, 5, 6, 7, 8], [0, 1, 2, 3, 4, 5, 6, 7, 8], [0, 1, 2, 3, 4, 5, 6, 7, 8, 9], [0, 1, 2, 3, 4, 5, 6, 7, 8, 9, 10, 11]] [10] (by intro c a d v w h; cases d <;> exact h) (by kernel_rfl) (by kernel_rfl) (by kernel_rfl) (by kernel_rfl) (by kernel_rfl) ?_; simp only [List.take_succ_cons, List.take_zero, List.drop_succ_cons, List.drop_zero, List.take_nil, List.drop_nil]
          (refine R2.VD_load_arr (RJ6) _ rfl (fun _ => rfl) (g0) (0) (fun _ => by simp [go_sem]) ([.slice b1 32 e1, .slice b2 32 e2, .slice b3 nc e3, .slice b4 nl e4, .int .i64 J.net, .int .i64 J.sent]) (hz.rd) (rfl) ?_)
          (repeat (apply R2.VD_der; (case h => (intro us w' hx hf; obtain ⟨x, rfl⟩ := hx.out; refine ⟨rfl, ?_⟩; simp [go_sem, execOp, *]; (try simp (disch := omega) only [Go.IntWalk.i64_in, Go.IntWalk.rem_in, Go.IntWalk.wrap64_in]); rfl)); (try simp only [Act.put, List.setIfInBounds_toArray, List.set_cons_succ, List.set_cons_zero])))
          (refine R2.VD_vag (fun _ => .int .i64 (m : Int)) (fun _ _ => True) (fun _ _ _ _ _ => trivial) (fun us w' hx hf => ⟨rfl, ?_⟩) ?_; (unfold gives; simp [go_sem, execOp]; refine (hw5 _).mono ?_; rintro e w1 ⟨rfl, hx1⟩; first | exact ⟨rfl, hx1⟩ | simpa using hx1))
          (refine R2.VD_vag (JarRV J2) (JarRP J2) (fun p w w' h hx => h.ext hx) (fun us w' hx hf => ⟨rfl, ?_⟩) ?_; (unfold gives; simp [go_sem, execOp]; exact vag_jarR (hmo _ (hM.ext hx))))
          (repeat (apply R2.VD_der; (case h => (intro us w' hx hf; obtain ⟨x, rfl⟩ := hx.out; refine ⟨rfl, ?_⟩; simp [go_sem, execOp, *]; (try simp (disch := omega) only [Go.IntWalk.i64_in, Go.IntWalk.rem_in, Go.IntWalk.wrap64_in]); rfl)); (try simp only [Act.put, List.setIfInBounds_toArray, List.set_cons_succ, List.set_cons_zero])))
          (refine R2.VD_nil ?_; intro us w' hx hf hd; obtain ⟨x, rfl⟩ := hx.out; (try simp only [Act.put, List.setIfInBounds_toArray, List.set_cons_succ, List.set_cons_zero, wpList_none]); (try simp only [List.mem_cons, List.not_mem_nil, or_false, forall_eq_or_imp, forall_eq, List.nil_append, List.cons_append, List.mem_append, false_or, true_and, and_true] at hf); (try simp only [Nat.reduceAdd, Nat.zero_add] at hf); (try simp only [Nat.reduceAdd, Nat.zero_add]))
          obtain ⟨hMx, hTx⟩ := hf
          simp only [JarRV]
          obtain ⟨p1, hp1⟩ : ∃ a, (us 7 0).1 = a := ⟨_, rfl⟩
          obtain ⟨x1, hx1⟩ : ∃ a, (us 7 0).2 = a := ⟨_, rfl⟩
          obtain ⟨p2, hp2⟩ : ∃ a, (us 7 1).1 = a := ⟨_, rfl⟩
          obtain ⟨x2, hx2⟩ : ∃ a, (us 7 1).2 = a := ⟨_, rfl⟩
          obtain ⟨p3, hp3⟩ : ∃ a, (us 7 2).1 = a := ⟨_, rfl⟩
          obtain ⟨x3, hx3⟩ : ∃ a, (us 7 2).2 = a := ⟨_, rfl⟩
          obtain ⟨p4, hp4⟩ : ∃ a, (us 7 3).1 = a := ⟨_, rfl⟩
          obtain ⟨x4, hx4⟩ : ∃ a, (us 7 3).2 = a := ⟨_, rfl⟩
          obtain ⟨mc, hmc⟩ : ∃ a, (us 7 4).2 = a := ⟨_, rfl⟩
          obtain ⟨ml, hml⟩ : ∃ a, (us 7 5).2 = a := ⟨_, rfl⟩
          rw [hp1, hx1, hp2, hx2, hp3, hx3, hp4, hx4, hmc, hml] at hMx
          rw [hp3] at hTx
          rw [hp1, hx1, hp2, hx2, hp3, hx3, hp4, hx4, hmc, hml]
          have hz := hz.extB hx
          have hT := hT.ext hx
          have hBs := Nat.le_trans hBs hx.size
          have hE := hE.trans hx
          have hM := hMx
          have ht := hTx
          clear hp1 hx1 hp2 hx2 hp3 hx3 hp4 hx4 hmc hml hMx hTx hmo hw5 hd hx
          generalize w3.ext x = w6 at *
          go_wp2_with (first
            | (refine wpList_store_arr (RJ6) rfl _ _ rfl (g0) (0) rfl ([.slice p1 32 x1, .slice p2 32 x2, .slice p3 mc x3, .slice p4 ml x4, .int .i64 J2.net, .int .i64 J2.sent]) rfl (30) _ (hz) (rfl) (by simp) ((by simp; repeat' (first | rfl | constructor))) ?_; intro w7 hz7 hM7)
            | (refine wpList_wanted (by simp [Region.wanted, yielded, Act.put]) ?_; (refine wpList_load_arr (RJ6) rfl _ rfl (g0) (0) rfl ([.slice p1 32 x1, .slice p2 32 x2, .slice p3 mc x3, .slice p4 ml x4, .int .i64 J2.net, .int .i64 J2.sent]) ((show Blk w7 g0 30 [.slice p1 32 x1, .slice p2 32 x2, .slice p3 mc x3, .slice p4 ml x4, .int .i64 J2.net, .int .i64 J2.sent] from hz7).rd) (rfl) ?_))
            | fail)
          have hM := hM.mut ht hz (by decide) (by simp) hM7
          have hT := hT.mut hz (by decide) (by simp) hM7
          have hBs := Nat.le_trans hBs hM7.size
          have hE : Ext w w7 := Below.trans hE (hM7.below hgw hE.size)
          have hz : Blk w7 g0 30 [.slice p1 32 x1, .slice p2 32 x2, .slice p3 mc x3, .slice p4 ml x4, .int .i64 J2.net, .int .i64 J2.sent] := hz7
          clear hz7 hM7 ht
          have hva := fun W H => valid_R (w := W) hN (b1 := p1) (b2 := p2) (b3 := p3) (b4 := p4) (d1 := x1) (d2 := x2) (d3 := x3) (d4 := x4) (nc := mc) (nl := ml) H
          have hsz := hN.sizes
          have hml := hM.ck.len
          have n8 : ¬ (8 : Int) < (mc : Int) := by omega
          (with_reducible refine (hva _ hM).mono ?_)
          rintro e w20 ⟨rfl, hx20⟩
          have hz := hz.extB hx20
          haveI := hz.blt
          have f2 := hz.cell? 2 rfl
          go_wp2_with fail
          go_roundw
          case rel => exact ⟨i + 1, f, t, J2, T, ta, tc, p1, p2, p3, p4, x1, x2, x3, x4, mc, ml, by omega, by go_num, rfl, rfl, by omega, by omega, by first | exact hTt | (rw [List.length_append, hTt]; rfl), hz, hM.ext hx20, hN, hT.ext hx20, Nat.le_trans hBs hx20.size, hE.trans hx20⟩
          case measure => simp [intOf]; omega
        · have j2 : ¬ (kd : Int) = 0 := by omega
          have j3 : ¬ (kd : Int) = 1 := by omega
          by_cases hck0 : nc = 0
          · subst hck0
            haveI := hz.blt
            have f2 := hz.cell? 2 rfl
            go_wp2_with fail
            go_roundw
            case rel => exact ⟨i + 1, f, t, J, T, ta, tc, b1, b2, b3, b4, e1, e2, e3, e4, 0, nl, by omega, by go_num, rfl, rfl, by omega, by omega, hTt, hz, hM, hN, hT, hBs, hE⟩
            case measure => simp [intOf]; omega
          · have hncl := hM.ck.len
            obtain ⟨Y, R, hyR⟩ : ∃ Y R, J.ck = Y :: R := by
              cases hj : J.ck with
              | nil => rw [hj] at hncl; exact absurd hncl.symm hck0
              | cons Y R => exact ⟨Y, R, rfl⟩
            have htk := fun W H => take_R (w := W) hN (by omega) hyR (b1 := b1) (b2 := b2) (b3 := b3) (b4 := b4) (d1 := e1) (d2 := e2) (d3 := e3) (d4 := e4) (nc := nc) (nl := nl) H
            have hYl : Y.length = 104 := hN.pos (List.mem_append_right _ (by rw [hyR]; exact List.mem_cons_self ..))
            obtain ⟨hN, hYT, hag⟩ := hN.take hyR (by omega)
            replace hag := Lib.hid hag
            clear hyR
            generalize takenJ J Y R = J2 at *
            have hpos : ∀ x ∈ J2.ck, 0 < x.length := fun x hx => by have := hN.pos (List.mem_append_right _ hx); omega
            haveI := hz.blt
            have f2 := hz.cell? 2 rfl
            have nc0 : ¬ (nc : Int) = 0 := by omega
            have nc1 : ((nc : Int) == 0) = false := by rw [beq_eq_false_iff_ne]; exact nc0
            go_wp2_with (first
              | (refine wpList_load_arr (RJ6) rfl _ rfl (g0) (0) rfl ([.slice b1 32 e1, .slice b2 32 e2, .slice b3 nc e3, .slice b4 nl e4, .int .i64 J.net, .int .i64 J.sent]) (hz.rd) (rfl) ?_)
              | fail)
            (with_reducible refine (htk _ hM).mono ?_)
            rintro e w6 ⟨p1, x1, p2, x2, p3, mc, x3, p4, ml, x4, p5, x5, rfl, hM, ht, hfr, hY, hx6⟩
            have hoff : Off p3 (Value.slice ta t tc).ownBlock := fun b o e h => by have := hfr b o e; have := hT.lt h; omega
            have hz := hz.extB hx6
            have hT := hT.ext hx6
            have hBs := Nat.le_trans hBs hx6.size
            have hE := hE.trans hx6
            clear hx6 htk f2 hfr
            go_wp2_with (first
              | (refine wpList_store_arr (RJ6) rfl _ _ rfl (g0) (0) rfl ([.slice p1 32 x1, .slice p2 32 x2, .slice p3 mc x3, .slice p4 ml x4, .int .i64 J2.net, .int .i64 J2.sent]) rfl (30) _ (hz) (rfl) (by simp) ((by simp; repeat' (first | rfl | constructor))) ?_; intro w7 hz7 hM7)
              | fail)
            have hY := hY.mutT hz (by decide) hM7
            have hM := hM.mut ht hz (by decide) (by simp) hM7
            have hT := hT.mut hz (by decide) (by simp) hM7
            have hBs := Nat.le_trans hBs hM7.size
            have hE : Ext w w7 := Below.trans hE (hM7.below hgw hE.size)
            have hz : Blk w7 g0 30 [.slice p1 32 x1, .slice p2 32 x2, .slice p3 mc x3, .slice p4 ml x4, .int .i64 J2.net, .int .i64 J2.sent] := hz7
            clear hz7 hM7 ht
            go_loopw [13] (fun v13 wr => ∃ k : Nat, k ≤ t ∧ v13 = .int .i64 k ∧ Ext w7 wr) (fun v13 _ => t - (intOf v13).toNat)
            case atStart => exact ⟨0, by omega, rfl, Below.refl _ _⟩
            case round =>
              obtain ⟨k, hk, rfl, hX⟩ := hrel
              have hT := hT.ext hX
              have hY := hY.ext hX
              by_cases hkt : k < t
              · obtain ⟨b9, o9, a9, n9, c9, rfl, hb9, hcell9, hc9, hS9⟩ := hT.own.ownB.bsc.at k hkt
                have hk0 : (0 : Int) ≤ (k : Int) := by omega
                have hk1 : (k : Int) < (t : Int) := by omega
                have hkT : k < T.length := by omega
                have hne : (T[k]'hkT == Y) = false := beq_eq_false_iff_ne.2 fun e => hYT (e ▸ List.getElem_mem hkT)
                have hsm := fun W H1 H2 => same_any a9 p5 n9 c9 104 x5 (T[k]'hkT) Y W H1 H2
                rw [hne] at hsm
                haveI := hb9
                go_wp2_with fail
                (with_reducible refine (hsm _ hS9 hY.sl).mono ?_)
                rintro e w8 ⟨rfl, hx8⟩
                go_wp2_with fail
                go_roundw
                case rel => exact ⟨k + 1, by omega, by go_num, hX.trans hx8⟩
                case measure => simp [intOf]; omega
              · obtain rfl : k = t := by omega
                have hk1 : ¬ (k : Int) < (k : Int) := by omega
                have hz := hz.extB hX
                have hM := hM.ext hX
                have hBs := Nat.le_trans hBs hX.size
                have hE := hE.trans hX
                clear hX
                have hxa : Ext wr (wr.alloc (.cells #[.slice p5 104 x5] 25)) := Ext.of_alloc _ _
                have hzA := hz.extB hxa
                have hnoA := (hT.ext hxa).own.ownB.blk hzA (by decide)
                go_wp2_with (first
                  | (at_builtin; refine wpList_append_oneS V8 rfl _ _ rfl B ta k tc T rfl wr.heap.size rfl (hT.ext hxa) p5 104 x5 Y (Blk.new wr #[.slice p5 104 x5] 25).rd (hY.ext hxa).sl hY.le.1 (Own.inBlk (hY.ext hxa)) (by omega) (Nat.le_trans hBs hxa.size) ?_; intro sa sc w9 hT9 hg9 hb9; have hz9 := hzA.grown hg9 hnoA)
                  | (refine wpList_load_arr (RJ6) rfl _ rfl (g0) (0) rfl ([.slice p1 32 x1, .slice p2 32 x2, .slice p3 mc x3, .slice p4 ml x4, .int .i64 J2.net, .int .i64 J2.sent]) (hz9.rd) (rfl) ?_)
                  | fail)
                have hM := (hM.ext hxa).grownS hpos (hT.ext hxa) hg9 hoff
                have hBs9 := Nat.le_trans hBs (Nat.le_trans hxa.size hg9.size)
                have hE : Ext w w9 := Below.trans (hE.trans hxa) (hb9.mono hBw)
                have hY9 : Sl w9 p5 104 Y := (hY.ext hxa).sl.grown hg9 ((hT.ext hxa).no.off (hY.ext hxa).sl (by omega))
                have hag2 := fun W H => again_R (w := W) hN hYl hag.out (b1 := p1) (b2 := p2) (b3 := p3) (b4 := p4) (d1 := x1) (d2 := x2) (d3 := x3) (d4 := x4) (nc := mc) (nl := ml) H
                have hz := hz9
                have hT := hT9
                have hBs := hBs9
                clear hz9 hT9 hBs9 hg9 hb9 hxa hzA hnoA hY
                (with_reducible refine (hag2 _ hM).mono ?_)
                rintro e w10 ⟨q1, r1, rfl, hSq, hx10⟩
                have hsm2 := fun W H1 H2 => same_any q1 p5 104 r1 104 x5 Y Y W H1 H2
                rw [beq_self_eq_true] at hsm2
                go_wp2_with fail
                (with_reducible refine (hsm2 _ hSq (hY9.ext hx10)).mono ?_)
                rintro e w11 ⟨rfl, hx11⟩
                have hx11 := hx10.trans hx11
                have hz := hz.extB hx11
                have hM := hM.ext hx11
                have hT := hT.ext hx11
                have hBs := Nat.le_trans hBs hx11.size
                have hE := hE.trans hx11
                clear hx10 hx11 hsm2 hag2 hSq hY9
                have hti := Nat.succ_le_succ hti
                go_wp2_with (first
                  | (refine wpList_wanted (by simp [Region.wanted, yielded, Act.put]) ?_; (refine wpList_load_arr (RJ6) rfl _ rfl (g0) (0) rfl ([.slice p1 32 x1, .slice p2 32 x2, .slice p3 mc x3, .slice p4 ml x4, .int .i64 J2.net, .int .i64 J2.sent]) (hz.rd) (rfl) ?_))
                  | fail)
                have hva := fun W H => valid_R (w := W) hN (b1 := p1) (b2 := p2) (b3 := p3) (b4 := p4) (d1 := x1) (d2 := x2) (d3 := x3) (d4 := x4) (nc := mc) (nl := ml) H
                have hsz := hN.sizes
                have hml := hM.ck.len
                have n8 : ¬ (8 : Int) < (mc : Int) := by omega
                (with_reducible refine (hva _ hM).mono ?_)
                rintro e w20 ⟨rfl, hx20⟩
                have hz := hz.extB hx20
                haveI := hz.blt
                have f2 := hz.cell? 2 rfl
                go_wp2_with fail
                go_roundw
                case rel => exact ⟨i + 1, f, (k + 1), J2, (T ++ [Y]), sa, sc, p1, p2, p3, p4, x1, x2, x3, x4, mc, ml, by omega, by go_num, rfl, rfl, by omega, by omega, by first | exact hTt | (rw [List.length_append, hTt]; rfl), hz, hM.ext hx20, hN, hT.ext hx20, Nat.le_trans hBs hx20.size, hE.trans hx20⟩
                case measure => simp [intOf]; omega
    · obtain rfl : i = n := by omega
      have j1 : ¬ (i : Int) < (i : Int) := by omega
      have hsn : J.sent = (t : Int) := by rw [hN.sent, hTt]
      go_wp2_with fail
      (with_reducible refine (hkn _).mono ?_); rintro e w3 ⟨rfl, hx3⟩
      have hz := hz.extB hx3
      haveI := hz.blt
      have f5 : w3.cell? ⟨g0, 5, none⟩ = some (.int .i64 J.sent) := hz.cell? 5 rfl
      rw [hsn] at f5
      go_wp2_with fail
      go_ret
      exact ⟨rfl, hE.trans hx3⟩
end Go.Proofs.Ytdmifbfgeeldnaa
