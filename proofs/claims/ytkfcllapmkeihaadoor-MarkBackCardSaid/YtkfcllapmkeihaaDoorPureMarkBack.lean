/- MarkBack's pure statement. -/
import Derived.Test.YtkfcllapmkeihaaDoorRefB
import Derived.Test.YtkfcllapmkeihaaDoorXx5
namespace Go.Proofs.YtkfcllapmkeihaaDoor.Pure
open Go.RowKit Go.Proofs.YtkfcllapmkeihaaDoor.X Go.Proofs.YtkfcllapmkeihaaDoor.Ext Go.Proofs.YtkfcllapmkeihaaDoor.Ref
theorem make_name {o : ByteArray} {n : Int} (g : MarkOk o n) : nameB (makeB o n) = true := by
  have hz := makeB_size g
  have hr := make_right g
  rw [nameB_iff]
  refine ⟨by omega, by omega, fun k hk => ?_⟩
  have hh := ((headB_iff _).1 (right_head hr)).2
  have hq := (rightB_iff _).1 hr
  by_cases h : k < 10
  · have := hh k h
    unfold hd at this
    split at this
    · simp [isSign, this]
    · simp [isSign, this]
  · obtain rfl | rfl : k = 10 ∨ k = 11 := by omega
    · simp [isSign, hq.2.1]
    · simp [isSign, hq.2.2.1]
theorem toList_inj' {a b : ByteArray} : a.toList = b.toList ↔ a = b := by
  rw [ByteArray.toList_eq, ByteArray.toList_eq]
  exact ⟨bytes_ext, fun h => by rw [h]⟩
theorem MarkBack (a0 a1 : ByteArray) (a2 a3 : Int) (w0 : a0.size ≤ 9223372036854775807) (w1 : a1.size ≤ 9223372036854775807) (_ : (Lit.int .i64 a2).wf = true) (_ : (Lit.int .i64 a3).wf = true) : ∃ k, supercargolaw03_MarkBack.f k a0 a1 a2 a3 = some true := by
  refine ⟨40, ?_⟩
  unfold supercargolaw03_MarkBack.f
  rw [awake_f]
  simp only [Option.bind_some]
  rw [if_pos trivial]
  rcases make_cases a0 a2 w0 with ⟨g, e⟩ | ⟨ng, c, hc, e⟩
  · rw [e]
    simp only [Option.bind_some]
    rcases make_cases a1 a3 w1 with ⟨g', e'⟩ | ⟨ng', c', hc', e'⟩
    · rw [e']
      simp only [Option.bind_some]
      rw [if_pos trivial]
      simp only [supercargolaw03_MarkBack.j0]
      have hz := makeB_size g
      rw [if_neg (by simp), owner_f _ (by omega), num_f _ (by omega) 39 (by omega)]
      unfold mark_Right.f mark_Name.f
      rw [if_pos (by omega), if_pos (by omega)]
      simp only [Option.bind_some]
      rw [make_right g, if_pos rfl, make_name g, if_pos rfl, if_pos rfl, make_owner g, if_pos rfl, if_pos rfl, num_make g, if_pos rfl, if_pos (by omega)]
      by_cases ho : a0.toList = a1.toList
      · rw [if_pos ho]
        congr 1
        rw [beq_iff_eq, Bool.eq_iff_iff, beq_iff_eq, beq_iff_eq, toList_inj']
        have ho' := toList_inj'.1 ho
        exact ⟨fun h => (make_inj g g' h).2, fun h => by rw [ho', h]⟩
      · rw [if_neg ho]
        congr 1
        rw [beq_iff_eq, beq_eq_false_iff_ne, ne_eq, toList_inj']
        exact fun h => ho (toList_inj'.2 (make_inj g g' h).1)
    · rw [e']
      simp only [Option.bind_some]
      rw [if_pos trivial]
      simp only [supercargolaw03_MarkBack.j0]
      rw [if_pos (by simp [hc']), if_pos trivial]
  · rw [e]
    simp only [Option.bind_some]
    have hex : ∃ b c', mark_Make.f a1 a3 = some (b, c') := by
      rcases make_cases a1 a3 w1 with ⟨_, e'⟩ | ⟨_, c', _, e'⟩
      · exact ⟨_, _, e'⟩
      · exact ⟨_, _, e'⟩
    obtain ⟨b, c', e'⟩ := hex
    rw [e']
    simp only [Option.bind_some]
    rw [if_neg hc]
    simp only [supercargolaw03_MarkBack.j0]
    rw [if_pos trivial, if_neg hc, ByteArray.toList_eq, if_pos rfl]
    unfold mark_Right.f
    rw [if_pos (by decide)]
    rfl
end Go.Proofs.YtkfcllapmkeihaaDoor.Pure
