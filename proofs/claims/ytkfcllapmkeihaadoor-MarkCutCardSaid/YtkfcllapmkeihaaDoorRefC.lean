/- Two right marks: what their equations tell of their signs. Plain laws: no program. -/
import Derived.Test.YtkfcllapmkeihaaDoorRefB
namespace Go.Proofs.YtkfcllapmkeihaaDoor.Ref
open Go.RowKit Go.Proofs.YtkfcllapmkeihaaDoor.Ext Go.Proofs.YtkfcllapmkeihaaDoor.X Go.Proofs.YtkfcllapmkeihaaDoorW.PrintWords

theorem sum_ten (s : ByteArray) : sumK s 10 = valI (sgn s 0) + valI (sgn s 1) * 2 + valI (sgn s 2) * 3 + valI (sgn s 3) * 4 + valI (sgn s 4) * 5 + valI (sgn s 5) * 6 + valI (sgn s 6) * 7 + valI (sgn s 7) * 8 + valI (sgn s 8) * 9 + valI (sgn s 9) * 10 := by
  simp only [sumK]
  omega
/-- What a right mark's signs are worth. -/
structure Worth (v : Nat → Int) : Prop where
  sum : (v 0 + v 1 * 2 + v 2 * 3 + v 3 * 4 + v 4 * 5 + v 5 * 6 + v 6 * 7 + v 7 * 8 + v 8 * 9 + v 9 * 10) % 97 = v 10 * 10 + v 11
  lo : ∀ j, 0 ≤ v j
  hi : ∀ j, v j ≤ 26
  dig : ∀ j, 4 ≤ j → j < 12 → v j ≤ 9
theorem right_sign {s : ByteArray} (h : rightB s = true) (j : Nat) (hj : j < 12) : if j < 4 then isLow (sgn s j) = true else isDig (sgn s j) = true := by
  have hq := (rightB_iff s).1 h
  have hh := ((headB_iff s).1 (right_head h)).2
  by_cases h10 : j < 10
  · have := hh j h10
    unfold hd at this
    split <;> rename_i h4
    · rwa [if_pos h4] at this
    · rwa [if_neg h4] at this
  · rw [if_neg (by omega)]
    obtain rfl | rfl : j = 10 ∨ j = 11 := by omega
    · exact hq.2.1
    · exact hq.2.2.1
theorem worth {s : ByteArray} (h : rightB s = true) : Worth fun j => valI (sgn s j) := by
  have hq := (rightB_iff s).1 h
  refine ⟨?_, fun j => (valI_range _).1, fun j => (valI_range _).2, fun j h4 h12 => ?_⟩
  · have e := hq.2.2.2
    unfold sumB at e
    rw [if_pos (right_head h), sum_ten] at e
    exact e
  · have := right_sign h j h12
    rw [if_neg (by omega)] at this
    exact (valI_dig _ this).2
theorem worth_dig {v : Nat → Int} (w : Worth v) : (0 ≤ v 0 ∧ v 0 ≤ 26) ∧ (0 ≤ v 1 ∧ v 1 ≤ 26) ∧ (0 ≤ v 2 ∧ v 2 ≤ 26) ∧ (0 ≤ v 3 ∧ v 3 ≤ 26) ∧ (0 ≤ v 4 ∧ v 4 ≤ 9) ∧ (0 ≤ v 5 ∧ v 5 ≤ 9) ∧ (0 ≤ v 6 ∧ v 6 ≤ 9) ∧ (0 ≤ v 7 ∧ v 7 ≤ 9) ∧ (0 ≤ v 8 ∧ v 8 ≤ 9) ∧ (0 ≤ v 9 ∧ v 9 ≤ 9) ∧ (0 ≤ v 10 ∧ v 10 ≤ 9) ∧ (0 ≤ v 11 ∧ v 11 ≤ 9) :=
  ⟨⟨w.lo _, w.hi _⟩, ⟨w.lo _, w.hi _⟩, ⟨w.lo _, w.hi _⟩, ⟨w.lo _, w.hi _⟩, ⟨w.lo _, w.dig _ (by omega) (by omega)⟩, ⟨w.lo _, w.dig _ (by omega) (by omega)⟩, ⟨w.lo _, w.dig _ (by omega) (by omega)⟩, ⟨w.lo _, w.dig _ (by omega) (by omega)⟩, ⟨w.lo _, w.dig _ (by omega) (by omega)⟩, ⟨w.lo _, w.dig _ (by omega) (by omega)⟩, ⟨w.lo _, w.dig _ (by omega) (by omega)⟩, ⟨w.lo _, w.dig _ (by omega) (by omega)⟩⟩
theorem val_inj {c d : UInt8} (j : Nat) (hc : if j < 4 then isLow c = true else isDig c = true) (hd : if j < 4 then isLow d = true else isDig d = true) (h : valI c = valI d) : c = d := by
  apply UInt8.toNat_inj.1
  by_cases h4 : j < 4
  · rw [if_pos h4] at hc hd
    rw [val_low hc, val_low hd] at h
    omega
  · rw [if_neg h4] at hc hd
    rw [val_dig hc, val_dig hd] at h
    omega
theorem ext_sgn {s t : ByteArray} (h : s.size = t.size) (he : ∀ j, j < s.size → sgn s j = sgn t j) : s = t := by
  apply bytes_ext
  apply List.ext_getElem (by rw [size_list, size_list, h])
  intro i h1 h2
  have := he i (by rw [← size_list]; exact h1)
  unfold sgn at this
  rw [List.getD_eq_getElem?_getD, List.getD_eq_getElem?_getD, List.getElem?_eq_getElem h1, List.getElem?_eq_getElem h2] at this
  exact this

set_option maxHeartbeats 4000000 in
/-- Two neighbours changed about: of right marks they are the same. -/
theorem turned {v u : Nat → Int} (w : Worth v) (z : Worth u) (i : Nat) (hi : i ≤ 10) (h3 : i ≠ 3) (h1 : u i = v (i + 1)) (h2 : u (i + 1) = v i) (he : ∀ j, j < 12 → j ≠ i → j ≠ i + 1 → u j = v j) : v i = v (i + 1) := by
  have e1 := w.sum
  have e2 := z.sum
  have d1 := worth_dig w
  have b : ∀ j, j < 12 → (j = i ∨ j = i + 1) ∨ u j = v j := fun j hj => if h : j = i then .inl (.inl h) else if h' : j = i + 1 then .inl (.inr h') else .inr (he j hj h h')
  have b0 := b 0 (by omega); have b1 := b 1 (by omega); have b2 := b 2 (by omega); have b3 := b 3 (by omega); have b4 := b 4 (by omega); have b5 := b 5 (by omega)
  have b6 := b 6 (by omega); have b7 := b 7 (by omega); have b8 := b 8 (by omega); have b9 := b 9 (by omega); have b10 := b 10 (by omega); have b11 := b 11 (by omega)
  clear b he w z
  obtain rfl | rfl | rfl | rfl | rfl | rfl | rfl | rfl | rfl | rfl : i = 0 ∨ i = 1 ∨ i = 2 ∨ i = 4 ∨ i = 5 ∨ i = 6 ∨ i = 7 ∨ i = 8 ∨ i = 9 ∨ i = 10 := by omega
  all_goals simp at b0 b1 b2 b3 b4 b5 b6 b7 b8 b9 b10 b11 h1 h2 ⊢
  all_goals omega
set_option maxHeartbeats 4000000 in
/-- One sign another one: of right marks it is the same. -/
theorem changed {v u : Nat → Int} (w : Worth v) (z : Worth u) (i : Nat) (hi : i ≤ 11) (he : ∀ j, j < 12 → j ≠ i → u j = v j) : v i = u i := by
  have e1 := w.sum
  have e2 := z.sum
  have d1 := worth_dig w
  have d2 := worth_dig z
  have b : ∀ j, j < 12 → j = i ∨ u j = v j := fun j hj => if h : j = i then .inl h else .inr (he j hj h)
  have b0 := b 0 (by omega); have b1 := b 1 (by omega); have b2 := b 2 (by omega); have b3 := b 3 (by omega); have b4 := b 4 (by omega); have b5 := b 5 (by omega)
  have b6 := b 6 (by omega); have b7 := b 7 (by omega); have b8 := b 8 (by omega); have b9 := b 9 (by omega); have b10 := b 10 (by omega); have b11 := b 11 (by omega)
  clear b he w z
  obtain rfl | rfl | rfl | rfl | rfl | rfl | rfl | rfl | rfl | rfl | rfl | rfl : i = 0 ∨ i = 1 ∨ i = 2 ∨ i = 3 ∨ i = 4 ∨ i = 5 ∨ i = 6 ∨ i = 7 ∨ i = 8 ∨ i = 9 ∨ i = 10 ∨ i = 11 := by omega
  all_goals simp at b0 b1 b2 b3 b4 b5 b6 b7 b8 b9 b10 b11
  all_goals omega
end Go.Proofs.YtkfcllapmkeihaaDoor.Ref
