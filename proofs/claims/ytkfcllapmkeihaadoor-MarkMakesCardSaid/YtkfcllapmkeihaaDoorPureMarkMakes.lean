/- MarkMakes' pure statement. -/
import Derived.Test.YtkfcllapmkeihaaDoorRefB
namespace Go.Proofs.YtkfcllapmkeihaaDoor.Pure
open Go.RowKit Go.Proofs.YtkfcllapmkeihaaDoor.X Go.Proofs.YtkfcllapmkeihaaDoor.Ext Go.Proofs.YtkfcllapmkeihaaDoor.Ref
theorem low_iff (a : ByteArray) (h4 : a.size = 4) : allB isLow a = true ↔ headB (a ++ ⟨#[48, 48, 48, 48, 48, 48]⟩) = true := by
  have hz : ByteArray.size ⟨#[48, 48, 48, 48, 48, 48]⟩ = 6 := rfl
  have hs : (a ++ ⟨#[48, 48, 48, 48, 48, 48]⟩).size = 10 := by simp [h4, hz]
  unfold headB
  rw [hs, extract_left _ _ 4 h4.symm, extract_right _ _ 4 10 h4.symm (by omega)]
  rw [show allB isDig ⟨#[48, 48, 48, 48, 48, 48]⟩ = true by decide]
  simp
theorem MarkMakes (a0 : ByteArray) (a1 : Int) (w0 : a0.size ≤ 9223372036854775807) (_ : (Lit.int .i64 a1).wf = true) : ∃ k, supercargolaw03_MarkMakes.f k a0 a1 = some true := by
  refine ⟨40, ?_⟩
  unfold supercargolaw03_MarkMakes.f
  rw [awake_f]
  simp only [Option.bind_some]
  rw [if_pos trivial]
  by_cases hbig : (a0.size : Int) > 200
  · rw [if_pos hbig]
  rw [if_neg hbig]
  by_cases h4 : a0.size = 4
  · have e4 : (a0.size : Int) = 4 := by omega
    have e6 : a0.size + 6 ≤ 9223372036854775807 := by omega
    have es' := sum_f (a0 ++ ⟨#[48, 48, 48, 48, 48, 48]⟩) 40 (by omega)
    by_cases hl : allB isLow a0 = true
    · have hh := (low_iff a0 h4).1 hl
      have hr := sumB_range _ hh
      have hneg : ¬ decide (sumB (a0 ++ ⟨#[48, 48, 48, 48, 48, 48]⟩) < 0) = true := by simp; omega
      by_cases h1 : 0 ≤ a1 ∧ a1 ≤ 999999
      · have g : MarkOk a0 a1 := ⟨h4, hl, h1.1, h1.2⟩
        rw [make_f g]
        simp only [Option.bind_some]
        rw [if_pos e4, if_pos e6, es']
        simp only [Option.bind_some, supercargolaw03_MarkMakes.j0]
        rw [if_neg hneg, if_neg (by omega), if_neg (by omega), refMake_f g 39 (by omega)]
        simp only [Option.bind_some]
        rw [if_pos trivial]
        rfl
      · have e : mark_Make.f a0 a1 = some (⟨#[]⟩, 3) := by unfold mark_Make.f; rw [if_pos w0, if_pos ⟨h4, hl⟩, if_neg h1]
        rw [e]
        simp only [Option.bind_some]
        rw [if_pos e4, if_pos e6, es']
        simp only [Option.bind_some, supercargolaw03_MarkMakes.j0]
        rw [if_neg hneg, ByteArray.toList_eq, if_pos rfl]
        by_cases h0 : a1 < 0
        · rw [if_pos h0]; rfl
        · rw [if_neg h0, if_pos (show a1 > 999999 by omega)]; rfl
    · have hh : ¬ headB (a0 ++ ⟨#[48, 48, 48, 48, 48, 48]⟩) = true := fun h => hl ((low_iff a0 h4).2 h)
      have es : sumB (a0 ++ ⟨#[48, 48, 48, 48, 48, 48]⟩) = -1 := by unfold sumB; rw [if_neg hh]
      have e : mark_Make.f a0 a1 = some (⟨#[]⟩, 1) := by unfold mark_Make.f; rw [if_pos w0, if_neg (fun h => hl h.2)]
      rw [e]
      simp only [Option.bind_some]
      rw [if_pos e4, if_pos e6, es']
      simp only [Option.bind_some, supercargolaw03_MarkMakes.j0]
      rw [es, if_pos (by decide), ByteArray.toList_eq]
      rfl
  · have e : mark_Make.f a0 a1 = some (⟨#[]⟩, 1) := by unfold mark_Make.f; rw [if_pos w0, if_neg (fun h => h4 h.1)]
    rw [e]
    simp only [Option.bind_some]
    rw [if_neg (show ¬ (a0.size : Int) = 4 by omega)]
    simp only [supercargolaw03_MarkMakes.j0]
    rw [if_pos trivial, ByteArray.toList_eq]
    rfl
end Go.Proofs.YtkfcllapmkeihaaDoor.Pure
