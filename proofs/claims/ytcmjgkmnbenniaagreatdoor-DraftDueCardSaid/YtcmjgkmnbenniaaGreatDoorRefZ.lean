/- The document's calendar (layer 2) and digits, as plain functions: what day.along finds is what Walk finds. -/
import Derived.Test.YtcmjgkmnbenniaaGreatDoorExtW
import Derived.Lib.ItoaMem
namespace Go.Proofs.YtcmjgkmnbenniaaGreatDoor.Ext
open Go.RowKit Go.Proofs.YtcmjgkmnbenniaaGreatDoorW.PrintWords
theorem rises_same (l : List Int) (m : Int) (hl : l.length ≤ 5000) (e : Nat) : ∀ (k k' i : Nat), i + e = l.length → e < k → e < k' →
    X.supercargoref02_rises.l0 k l m (i : Int) = X.day_rises.l0 k' l m l (l.length : Int) (i : Int) := by
  induction e with
  | zero =>
    intro k k' i h hk hk'
    obtain ⟨k, rfl⟩ : ∃ m, k = m + 1 := ⟨k - 1, by omega⟩
    obtain ⟨k', rfl⟩ : ∃ m, k' = m + 1 := ⟨k' - 1, by omega⟩
    simp only [X.day_rises.l0, X.supercargoref02_rises.l0]
    rw [if_neg (by omega), if_neg (by omega)]
  | succ e ih =>
    intro k k' i h hk hk'
    obtain ⟨k, rfl⟩ : ∃ m, k = m + 1 := ⟨k - 1, by omega⟩
    obtain ⟨k', rfl⟩ : ∃ m, k' = m + 1 := ⟨k' - 1, by omega⟩
    have hw : wrap64 ((i : Int) + 1) = ((i + 1 : Nat) : Int) := by rw [w64 (by omega) (by omega)]; omega
    simp only [X.day_rises.l0, X.supercargoref02_rises.l0]
    have g1 : ((i : Int) < (l.length : Int)) = True := eq_true (by omega)
    have g2 : ((0 : Int) ≤ (i : Int)) = True := eq_true (by omega)
    have g3 := ih k k' (i + 1) (by omega) (by omega) (by omega)
    simp only [g1, g2, if_true, hw, g3]
theorem rises_ref (l : List Int) (m : Int) (hl : l.length ≤ 5000) (k : Nat) (hk : 6000 ≤ k) : X.supercargoref02_rises.f k l m = X.day_rises.f 6000 l m :=
  rises_same l m hl l.length k 6000 0 (by omega) (by omega) (by omega)
theorem may_ref (l1 l2 : List Int) (h1 : l1.length ≤ 5000) (h2 : l2.length ≤ 5000) (k : Nat) (hk : 6000 ≤ k) : X.supercargoref02_May.f k l1 l2 = X.day_May.f 6000 l1 l2 := by
  unfold X.supercargoref02_May.f X.day_May.f
  rw [rises_ref l1 6 h1 k hk, rises_ref l2 1048576 h2 k hk]
theorem inI_l (l : List Int) (x : Int) (hl : l.length ≤ 5000) (e : Nat) : ∀ (k i : Nat), i + e = l.length → e < k → X.supercargoref02_in.l0 k l x (i : Int) = some (hasI (l.drop i) x) := by
  induction e with
  | zero =>
    intro k i h hk
    obtain ⟨k, rfl⟩ : ∃ m, k = m + 1 := ⟨k - 1, by omega⟩
    simp only [X.supercargoref02_in.l0]
    rw [if_neg (by omega), List.drop_of_length_le (by omega)]
    rfl
  | succ e ih =>
    intro k i h hk
    obtain ⟨k, rfl⟩ : ∃ m, k = m + 1 := ⟨k - 1, by omega⟩
    simp only [X.supercargoref02_in.l0]
    have hi : i < l.length := by omega
    have e1 : Go.Proofs.YtcmjgkmnbenniaaGreatDoorW.PrintWords.rd l (i : Int) = l[i] := by
      unfold Go.Proofs.YtcmjgkmnbenniaaGreatDoorW.PrintWords.rd
      rw [Int.toNat_natCast, List.getD_eq_getElem?_getD, List.getElem?_eq_getElem hi]; rfl
    have hw : wrap64 ((i : Int) + 1) = ((i + 1 : Nat) : Int) := by rw [w64 (by omega) (by omega)]; omega
    rw [if_pos (by omega), if_pos (by omega), e1, hw, ih k (i + 1) (by omega) (by omega), List.drop_eq_getElem_cons hi]
    unfold hasI
    rw [List.contains_cons]
    by_cases c : l[i] = x
    · rw [if_pos c, beq_iff_eq.2 c.symm]; rfl
    · rw [if_neg c, beq_eq_false_iff_ne.2 (Ne.symm c)]; rfl
theorem inI_f (l : List Int) (x : Int) (hl : l.length ≤ 5000) (k : Nat) (hk : 6000 ≤ k) : X.supercargoref02_in.f k l x = some (hasI l x) := by
  have := inI_l l x hl l.length k 0 (by omega) (by omega)
  simpa [X.supercargoref02_in.f] using this
theorem is_f (x : Int) (h0 : 0 ≤ x) (h1 : x ≤ 1048576) : X.supercargoref02_Is.f x = some true := by
  unfold X.supercargoref02_Is.f
  rw [if_pos (by omega)]
  simp [h1]
theorem is_no (x : Int) (h : x < 0 ∨ 1048576 < x) : X.supercargoref02_Is.f x = some false := by
  unfold X.supercargoref02_Is.f
  by_cases c : x ≥ 0
  · rw [if_pos c]; simp; omega
  · rw [if_neg c]
theorem calOf_yes {l1 l2 : List Int} (h1 : l1.length ≤ 5000) (h2 : l2.length ≤ 5000) (h : X.day_May.f 6000 l1 l2 = some true) (day : Int) : (calOf l1 l2).rests day = (hasI l1 (day % 7) || hasI l2 day) := by
  unfold calOf
  rw [dif_pos ⟨h1, h2, h⟩]
  rfl
theorem calOf_no {l1 l2 : List Int} (h : X.day_May.f 6000 l1 l2 ≠ some true) (day : Int) : (calOf l1 l2).rests day = false := by
  unfold calOf
  rw [dif_neg (fun g => h g.2.2)]
  rfl
theorem rests_ref (l1 l2 : List Int) (h1 : l1.length ≤ 5000) (h2 : l2.length ≤ 5000) (k : Nat) (hk : 6000 ≤ k) (day : Int) (d0 : 0 ≤ day) (d1 : day ≤ 1048576) : X.supercargoref02_Rests.f k l1 l2 day = some ((calOf l1 l2).rests day) := by
  unfold X.supercargoref02_Rests.f
  obtain ⟨r, hm, _⟩ := may_case l1 l2 h1 h2
  rw [is_f day d0 d1, may_ref l1 l2 h1 h2 k hk, hm]
  simp only [Option.bind_some]
  rw [if_pos trivial]
  cases r with
  | true =>
    rw [calOf_yes h1 h2 hm, if_pos rfl, inI_f l1 _ h1 k hk, inI_f l2 _ h2 k hk, Int.tmod_eq_emod_of_nonneg d0]
    simp only [Option.bind_some]
    cases hasI l1 (day % 7) <;> simp
  | false => rw [calOf_no (by rw [hm]; simp), if_neg (by simp)]
theorem walk_l (l1 l2 : List Int) (h1 : l1.length ≤ 5000) (h2 : l2.length ≤ 5000) (e : Nat) : ∀ (k : Nat) (s : Int), 0 ≤ s → s + e = 1048577 → e + 7000 ≤ k →
    ∃ n ok, X.supercargoref02_Walk.l0 k 1 1 s l1 l2 = some (n, ok) ∧ NextIs (calOf l1 l2).rests s n ok := by
  induction e with
  | zero =>
    intro k s hs h hk
    obtain ⟨k, rfl⟩ : ∃ m, k = m + 1 := ⟨k - 1, by omega⟩
    simp only [X.supercargoref02_Walk.l0]
    rw [is_no s (by omega)]
    exact ⟨0, false, by simp, .inr ⟨rfl, rfl, .inr fun k h1 h2 => by omega⟩⟩
  | succ e ih =>
    intro k s hs h hk
    obtain ⟨k, rfl⟩ : ∃ m, k = m + 1 := ⟨k - 1, by omega⟩
    simp only [X.supercargoref02_Walk.l0]
    rw [is_f s hs (by omega), rests_ref l1 l2 h1 h2 k (by omega) s hs (by omega)]
    simp only [Option.bind_some]
    rw [if_pos trivial]
    cases hr : (calOf l1 l2).rests s with
    | true =>
      obtain ⟨n, ok, hf, hN⟩ := ih k (s + 1) (by omega) (by omega) (by omega)
      refine ⟨n, ok, by rw [if_pos rfl, w64 (by omega) (by omega)]; exact hf, ?_⟩
      rcases hN with ⟨a, b, c, d, f, g, _⟩ | ⟨a, b, c⟩
      · exact .inl ⟨a, by omega, c, d, f, fun j g1 g2 => by
          by_cases q : j = s
          · rw [q]; exact hr
          · exact g j (by omega) g2, hs⟩
      · refine .inr ⟨a, b, .inr fun j g1 g2 => ?_⟩
        by_cases q : j = s
        · rw [q]; exact hr
        · rcases c with c | c
          · omega
          · exact c j (by omega) g2
    | false =>
      refine ⟨s, true, by rw [if_neg (by simp), if_pos (show wrap64 (1 - 1) = 0 from w64 (by omega) (by omega))], .inl ⟨rfl, Int.le_refl _, hs, by omega, hr, fun j g1 g2 => by omega, hs⟩⟩
theorem rises_bounds_l (l : List Int) (m : Int) (hl : l.length ≤ 5000) (e : Nat) : ∀ (k i : Nat), i + e = l.length → e < k → X.day_rises.l0 k l m l (l.length : Int) (i : Int) = some true → ∀ j, i ≤ j → j < l.length → 0 ≤ l.getD j 0 ∧ l.getD j 0 ≤ m := by
  induction e with
  | zero => intro k i h hk _ j h1 h2; omega
  | succ e ih =>
    intro k i h hk hf j g1 g2
    obtain ⟨k, rfl⟩ : ∃ m, k = m + 1 := ⟨k - 1, by omega⟩
    have hw : wrap64 ((i : Int) + 1) = ((i + 1 : Nat) : Int) := by rw [w64 (by omega) (by omega)]; omega
    simp only [X.day_rises.l0] at hf
    rw [if_pos (by omega), if_pos (by omega), if_pos (by omega), hw] at hf
    have hrd : Go.Proofs.YtcmjgkmnbenniaaGreatDoorW.PrintWords.rd l (i : Int) = l.getD i 0 := by unfold Go.Proofs.YtcmjgkmnbenniaaGreatDoorW.PrintWords.rd; rw [Int.toNat_natCast]
    rw [hrd] at hf
    by_cases c1 : l.getD i 0 < 0
    · rw [if_pos c1] at hf; cases hf
    rw [if_neg c1] at hf
    by_cases c2 : l.getD i 0 > m
    · rw [if_pos c2] at hf; cases hf
    rw [if_neg c2] at hf
    by_cases q : j = i
    · subst q; omega
    · refine ih k (i + 1) (by omega) (by omega) ?_ j (by omega) g2
      by_cases c3 : (i : Int) > 0
      · rw [if_pos c3] at hf
        split at hf
        · split at hf
          · split at hf
            · cases hf
            · exact hf
          · cases hf
        · cases hf
      · rw [if_neg c3] at hf; exact hf
/-- Seven weekdays that all rest. -/
theorem seven {l1 l2 : List Int} (h7 : l1.length = 7) (hm : X.day_May.f 6000 l1 l2 = some true) (d : Int) : hasI l1 (d % 7) = true := by
  unfold X.day_May.f at hm
  obtain ⟨r, hr, hm⟩ := Option.bind_eq_some_iff.1 hm
  have hrt : r = true := by
    cases r with
    | true => rfl
    | false => simp at hm
  subst hrt
  have hb := rises_bounds_l l1 6 (by omega) l1.length 6000 0 (by omega) (by omega) hr
  obtain ⟨r', hr', hs⟩ := rises_case l1 6 (by omega)
  rw [hr] at hr'
  have hp := hs (Option.some.inj hr').symm
  have step : ∀ i, i + 1 < 7 → l1.getD i 0 + 1 ≤ l1.getD (i + 1) 0 := fun i hi => by
    have h1 : i < l1.length := by omega
    have h2 : i + 1 < l1.length := by omega
    have := List.pairwise_iff_getElem.1 hp i (i + 1) h1 h2 (Nat.lt_succ_self i)
    rw [List.getD_eq_getElem?_getD, List.getD_eq_getElem?_getD, List.getElem?_eq_getElem h1, List.getElem?_eq_getElem h2]
    exact this
  have b0 := (hb 0 (by omega) (by omega)).1
  have b6 := (hb 6 (by omega) (by omega)).2
  have s0 := step 0 (by omega)
  have s1 := step 1 (by omega)
  have s2 := step 2 (by omega)
  have s3 := step 3 (by omega)
  have s4 := step 4 (by omega)
  have s5 := step 5 (by omega)
  have at_ : ∀ i : Nat, i < 7 → l1.getD i 0 = (i : Int) := by
    intro i hi
    have : i = 0 ∨ i = 1 ∨ i = 2 ∨ i = 3 ∨ i = 4 ∨ i = 5 ∨ i = 6 := by omega
    rcases this with rfl | rfl | rfl | rfl | rfl | rfl | rfl <;> simp only [Nat.zero_add, Nat.reduceAdd] at * <;> omega
  have hlt : (d % 7).toNat < 7 := by omega
  have := at_ _ hlt
  unfold hasI
  rw [List.contains_iff_mem]
  have hl : (d % 7).toNat < l1.length := by omega
  rw [List.getD_eq_getElem?_getD, List.getElem?_eq_getElem hl] at this
  have e : d % 7 = l1[(d % 7).toNat] := by
    have h' : l1[(d % 7).toNat] = (((d % 7).toNat : Nat) : Int) := this
    rw [h']; omega
  rw [e]
  exact List.getElem_mem _
theorem walk_ref (l1 l2 : List Int) (h1 : l1.length ≤ 5000) (h2 : l2.length ≤ 5000) (k : Nat) (hk : 1100000 ≤ k) (s : Int) (s0 : 0 ≤ s) (s1 : s ≤ 1048576) : X.supercargoref02_Walk.f k l1 l2 s 1 1 true = some (nextP (calOf l1 l2).rests s) := by
  obtain ⟨k, rfl⟩ : ∃ m, k = m + 2 := ⟨k - 2, by omega⟩
  have go : X.supercargoref02_Walk.l0 k 1 1 s l1 l2 = some (nextP (calOf l1 l2).rests s) := by
    obtain ⟨n, ok, hf, hN⟩ := walk_l l1 l2 h1 h2 (1048577 - s).toNat k s s0 (by omega) (by omega)
    rw [hf, nextP_eq hN]
  have go2 : X.supercargoref02_Walk.j0 (k + 2) s 1 1 true false l1 l2 = some (nextP (calOf l1 l2).rests s) := by
    simp only [X.supercargoref02_Walk.j0, X.supercargoref02_Walk.j1]
    rw [if_neg (by simp), if_pos trivial]
    exact go
  unfold X.supercargoref02_Walk.f
  obtain ⟨r, hm, _⟩ := may_case l1 l2 h1 h2
  rw [may_ref l1 l2 h1 h2 _ (by omega), hm]
  simp only [Option.bind_some]
  cases r with
  | false => rw [if_neg (by simp)]; exact go2
  | true =>
    rw [if_pos rfl]
    by_cases h7 : l1.length = 7
    · have e : ((l1.length : Int) == 7) = true := by simp [h7]
      rw [e]
      simp only [X.supercargoref02_Walk.j0]
      rw [if_pos trivial]
      have : NextIs (calOf l1 l2).rests s 0 false := .inr ⟨rfl, rfl, .inr fun j g1 g2 => by rw [calOf_yes h1 h2 hm, seven h7 hm j]; rfl⟩
      rw [nextP_eq this]
    · have e : ((l1.length : Int) == 7) = false := by simp; omega
      rw [e]
      exact go2
end Go.Proofs.YtcmjgkmnbenniaaGreatDoor.Ext
