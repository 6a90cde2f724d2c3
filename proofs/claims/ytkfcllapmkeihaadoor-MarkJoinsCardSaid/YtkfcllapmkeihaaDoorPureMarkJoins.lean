/- MarkJoins' pure statement. -/
import Derived.Test.YtkfcllapmkeihaaDoorRefB
import Derived.Test.YtkfcllapmkeihaaDoorXx6
namespace Go.Proofs.YtkfcllapmkeihaaDoor.Pure
open Go.RowKit Go.Proofs.YtkfcllapmkeihaaDoor.X Go.Proofs.YtkfcllapmkeihaaDoor.Ext Go.Proofs.YtkfcllapmkeihaaDoor.Ref
theorem name_eq (s : ByteArray) (h : s.size ≤ 9223372036854775807) : mark_Name.f s = some (nameB s) := by unfold mark_Name.f; rw [if_pos h]
theorem sgn_left (s t : ByteArray) (k : Nat) (h : k < s.size) : sgn (s ++ t) k = sgn s k := by
  unfold sgn
  rw [append_list, List.getD_eq_getElem?_getD, List.getD_eq_getElem?_getD, List.getElem?_append_left (by rw [size_list]; omega)]
theorem sgn_right (s t : ByteArray) (k : Nat) : sgn (s ++ t) (s.size + k) = sgn t k := by
  unfold sgn
  rw [append_list, List.getD_eq_getElem?_getD, List.getD_eq_getElem?_getD, List.getElem?_append_right (by rw [size_list]; omega), size_list]
  congr 2
  omega
theorem name_part {s : ByteArray} (h : nameB s = true) (i j : Nat) (hj : j ≤ s.size) : nameB (s.extract i j) = decide (i < j) := by
  obtain ⟨h1, h2, h3⟩ := (nameB_iff s).1 h
  rw [Bool.eq_iff_iff, nameB_iff, decide_eq_true_eq]
  have hz : (s.extract i j).size = j - i := by simp; omega
  rw [hz]
  constructor
  · intro g; omega
  · intro g
    refine ⟨by omega, by omega, fun k hk => ?_⟩
    rw [sgn_extract s i j k (by omega) hj]
    exact h3 _ (by omega)
theorem numR_lo {s : ByteArray} (h : rightB s = true) : numR s ≥ 0 := by
  have hz : (s.extract 4 10).size = 6 := by have := right_size h; simp; omega
  exact (numK_small (s.extract 4 10) (right_digits h) (by omega) 6 (by omega)).1
theorem j3_true (a : ByteArray) (h : a.size ≤ 40) (k : Nat) (hk : 20 ≤ k) : supercargolaw03_MarkJoins.j3 k a false = some true := by
  obtain ⟨k, rfl⟩ : ∃ m, k = m + 1 := ⟨k - 1, by omega⟩
  simp only [supercargolaw03_MarkJoins.j3]
  rw [if_neg (by simp)]
  unfold mark_Right.f
  rw [if_pos (by omega)]
  simp only [Option.bind_some]
  by_cases hr : rightB a = true
  · have h12 := right_size hr
    rw [if_pos hr, owner_f a (by omega), if_pos hr, num_f a (by omega) k (by omega), if_pos hr]
    simp only [Option.bind_some]
    have hh := ((headB_iff a).1 (right_head hr)).2
    have n1 : nameB (a.extract 0 4) = true := by
      rw [nameB_iff]
      have hz : (a.extract 0 4).size = 4 := by simp; omega
      refine ⟨by omega, by omega, fun j hj => ?_⟩
      rw [sgn_extract a 0 4 j (by omega) (by omega), Nat.zero_add]
      have := hh j (by omega)
      unfold hd at this
      rw [if_pos (by omega)] at this
      simp [isSign, this]
    have n2 : nameB (a.extract 4 10) = true := by
      rw [nameB_iff]
      have hz : (a.extract 4 10).size = 6 := by simp; omega
      refine ⟨by omega, by omega, fun j hj => ?_⟩
      rw [sgn_extract a 4 10 j (by omega) (by omega)]
      have := hh (4 + j) (by omega)
      unfold hd at this
      rw [if_neg (by omega)] at this
      simp [isSign, this]
    rw [name_eq _ (by simp; omega), n1, name_eq _ (by simp; omega), n2]
    simp only [Option.bind_some]
    rw [if_pos trivial, if_pos (by decide), if_pos (by omega), if_pos trivial]
    rw [decide_eq_true (numR_lo hr)]
  · rw [if_neg hr]
theorem j2_true (a : ByteArray) (c : Int) (h : a.size ≤ 40) (h0 : 0 ≤ c) (h1 : c ≤ a.size) (k : Nat) (hk : 21 ≤ k) : supercargolaw03_MarkJoins.j2 k a c false = some true := by
  obtain ⟨k, rfl⟩ : ∃ m, k = m + 1 := ⟨k - 1, by omega⟩
  obtain ⟨i, rfl⟩ := Int.eq_ofNat_of_zero_le h0
  simp only [supercargolaw03_MarkJoins.j2]
  rw [if_neg (by simp), name_eq a (by omega)]
  simp only [Option.bind_some, Int.toNat_natCast]
  by_cases hn : nameB a = true
  · rw [if_pos hn, if_pos h0, if_pos h1, name_eq _ (by simp; omega), name_part hn 0 i (by omega), name_eq _ (by simp; omega), name_part hn i a.size (by omega)]
    simp only [Option.bind_some]
    rw [if_neg (by simp)]
    have e : (decide (i < a.size) != decide ((i : Int) < (a.size : Int))) = false := by simp
    rw [e]
    exact j3_true a h k (by omega)
  · rw [if_neg hn]
    exact j3_true a h k (by omega)
theorem MarkJoins (a0 a1 : ByteArray) (a2 : Int) (_ : a0.size ≤ 9223372036854775807) (_ : a1.size ≤ 9223372036854775807) (_ : (Lit.int .i64 a2).wf = true) : ∃ k, supercargolaw03_MarkJoins.f k a0 a1 a2 = some true := by
  refine ⟨60, ?_⟩
  unfold supercargolaw03_MarkJoins.f
  rw [awake_f]
  simp only [Option.bind_some]
  rw [if_pos trivial]
  by_cases c0 : (a0.size : Int) > 40
  · rw [if_pos c0]; simp only [supercargolaw03_MarkJoins.j0]; rw [if_pos trivial]
  rw [if_neg c0]
  by_cases c1 : (a1.size : Int) > 40
  · rw [if_pos c1]; simp only [supercargolaw03_MarkJoins.j0]; rw [if_pos trivial]
  rw [if_neg c1]
  by_cases c2 : a2 < 0
  · rw [if_pos c2]; simp only [supercargolaw03_MarkJoins.j0]; rw [if_pos trivial]
  rw [if_neg c2]
  by_cases c3 : a2 > (a0.size : Int)
  · rw [decide_eq_true c3]; simp only [supercargolaw03_MarkJoins.j0]; rw [if_pos trivial]
  rw [decide_eq_false c3]
  have fin : ∀ k, 21 ≤ k → supercargolaw03_MarkJoins.j2 k a0 a2 false = some true := fun k hk => j2_true a0 a2 (by omega) (by omega) (by omega) k hk
  have hz : (a0 ++ a1).size = a0.size + a1.size := by simp
  have j1 : supercargolaw03_MarkJoins.j1 59 a0 a1 a2 (nameB a0 && nameB a1) = some true := by
    simp only [supercargolaw03_MarkJoins.j1]
    by_cases hb : (nameB a0 && nameB a1) = true
    · rw [if_pos hb, if_pos (by omega), name_eq _ (by omega)]
      simp only [Option.bind_some]
      simp only [Bool.and_eq_true] at hb
      obtain ⟨hn0, hn1⟩ := hb
      obtain ⟨x1, x2, x3⟩ := (nameB_iff a0).1 hn0
      obtain ⟨y1, y2, y3⟩ := (nameB_iff a1).1 hn1
      have e : nameB (a0 ++ a1) = decide ((a0.size : Int) + (a1.size : Int) ≤ 16) := by
        rw [Bool.eq_iff_iff, nameB_iff, decide_eq_true_eq, hz]
        constructor
        · intro g; omega
        · intro g
          refine ⟨by omega, by omega, fun k hk => ?_⟩
          by_cases h : k < a0.size
          · rw [sgn_left _ _ _ h]; exact x3 k h
          · obtain ⟨m, rfl⟩ : ∃ m, k = a0.size + m := ⟨k - a0.size, by omega⟩
            rw [sgn_right]; exact y3 m (by omega)
      rw [e, if_neg (by simp)]
      split
      · exact fin _ (by omega)
      · split <;> exact fin _ (by omega)
    · rw [if_neg hb]
      split
      · exact fin _ (by omega)
      · split
        · exact fin _ (by omega)
        · rw [if_pos (by omega), name_eq _ (by omega)]
          simp only [Option.bind_some]
          split
          · rename_i hn
            have := ((nameB_iff _).1 hn).2.1
            rw [decide_eq_false (by omega)]
            exact fin _ (by omega)
          · exact fin _ (by omega)
  simp only [supercargolaw03_MarkJoins.j0]
  rw [if_neg (by simp), name_eq a0 (by omega), name_eq a1 (by omega)]
  simp only [Option.bind_some]
  cases hn : nameB a0 with
  | true => rw [if_pos rfl]; rw [hn, Bool.true_and] at j1; exact j1
  | false => rw [if_neg (by simp)]; rw [hn, Bool.false_and] at j1; exact j1
end Go.Proofs.YtkfcllapmkeihaaDoor.Pure
