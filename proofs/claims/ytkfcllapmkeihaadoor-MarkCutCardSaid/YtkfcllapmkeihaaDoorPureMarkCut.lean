/- MarkCut's pure statement. -/
import Derived.Test.YtkfcllapmkeihaaDoorRefM
import Derived.Test.YtkfcllapmkeihaaDoorXx10
namespace Go.Proofs.YtkfcllapmkeihaaDoor.Pure
open Go.RowKit Go.Proofs.YtkfcllapmkeihaaDoor.X Go.Proofs.YtkfcllapmkeihaaDoor.Ext Go.Proofs.YtkfcllapmkeihaaDoor.Ref Go.Proofs.YtkfcllapmkeihaaDoorW.PrintWords
theorem MarkCut (a0 : ByteArray) (a1 : Int) (a2 : ByteArray) (a3 : Int) (w0 : a0.size ≤ 9223372036854775807) (_ : (Lit.int .i64 a1).wf = true) (w2 : a2.size ≤ 9223372036854775807) (_ : (Lit.int .i64 a3).wf = true) : ∃ k, supercargolaw03_MarkCut.f k a0 a1 a2 a3 = some true := by
  refine ⟨40, ?_⟩
  unfold supercargolaw03_MarkCut.f
  rw [awake_f]
  simp only [Option.bind_some]
  rw [if_pos trivial]
  rcases make_cases a0 a1 w0 with ⟨g, e⟩ | ⟨_, c, hc, e⟩
  · rw [e]
    simp only [Option.bind_some]
    rw [if_pos trivial]
    have hz := makeB_size g
    have hr := make_right g
    have hj : ∀ s, supercargolaw03_MarkCut.j0 40 a2 a3 s 0 true = some true := fun s => by simp [supercargolaw03_MarkCut.j0]
    by_cases c1 : (a2.size : Int) > 50
    · rw [if_pos c1, hj]
    rw [if_neg c1]
    by_cases c2 : a3 < 0
    · rw [if_pos c2, hj]
    rw [if_neg c2]
    by_cases c3 : a3 > 11
    · rw [decide_eq_true c3, hj]
    rw [decide_eq_false c3]
    obtain ⟨n, rfl⟩ : ∃ n : Nat, a3 = n := ⟨a3.toNat, by omega⟩
    simp only [supercargolaw03_MarkCut.j0]
    rw [if_neg (by simp), if_pos (by omega), if_pos (by omega), Int.toNat_natCast]
    have hps : ((makeB a0 a1).extract 0 n).size = n := by simp; omega
    have hpr : rightB ((makeB a0 a1).extract 0 n) = false := by
      rw [Bool.eq_false_iff]
      intro h
      have := right_size h
      omega
    have hsum : sumB (makeB a0 a1 ++ a2) = sumB (makeB a0 a1) := sumB_congr (fun k hk => sgn_lt' _ _ _ (by omega)) (by rw [ByteArray.size_append]; omega) (by omega)
    have hra : rightB (makeB a0 a1 ++ a2) = a2.toList.isEmpty := by
      by_cases h0 : a2.size = 0
      · have : a2 = ⟨#[]⟩ := ByteArray.ext (Array.eq_empty_of_size_eq_zero h0)
        subst this
        rw [show makeB a0 a1 ++ (⟨#[]⟩ : ByteArray) = makeB a0 a1 from bytes_ext (by rw [append_list]; simp), hr, ByteArray.toList_eq]
        rfl
      · rw [show rightB (makeB a0 a1 ++ a2) = false by
          rw [Bool.eq_false_iff]
          intro h
          have := right_size h
          rw [ByteArray.size_append] at this
          omega]
        rw [ByteArray.toList_eq]
        cases hq : a2.data.toList with
        | nil => exact absurd (by rw [← size_list, hq]; rfl) h0
        | cons _ _ => rfl
    unfold mark_Right.f mark_Sum.f
    rw [if_pos (by omega)]
    simp only [Option.bind_some]
    rw [hpr, if_neg (by simp), if_pos (by omega), if_pos (by rw [ByteArray.size_append]; omega)]
    simp only [Option.bind_some]
    rw [hra, if_neg (by simp), if_pos (by rw [ByteArray.size_append]; omega), if_pos (by omega)]
    simp only [Option.bind_some]
    have hlo := sum_lo g
    have hhi := sum_hi g
    rw [hsum, if_pos rfl, sum_make g, if_neg (by omega), decide_eq_false (by omega)]
    simp only [supercargolaw03_MarkCut.j1]
    rw [if_neg (by simp), if_pos (by omega), if_pos (by omega), Int.toNat_natCast]
    unfold mark_Sum.f mark_Mend.f
    rw [if_pos (by omega), if_pos (by omega), if_neg (by omega)]
    simp only [Option.bind_some]
    rw [if_pos]
    · rfl
    · rw [beq_iff_eq]
      apply Bool.eq_iff_iff.2
      rw [decide_eq_true_eq, decide_eq_true_eq]
      constructor
      · intro h
        by_cases h10 : (n : Int) ≥ 10
        · exact h10
        · exfalso
          have : headB ((makeB a0 a1).extract 0 n) = false := by
            rw [Bool.eq_false_iff]
            intro hh
            have := ((headB_iff _).1 hh).1
            omega
          unfold sumB at h
          rw [this] at h
          simp at h
      · intro h
        have hh : headB ((makeB a0 a1).extract 0 n) = true := by
          rw [headB_congr (t := makeB a0 a1) (fun k hk => by rw [sgn_extract _ _ _ _ (by omega) (by omega), Nat.zero_add]) (by omega) (by omega)]
          exact right_head hr
        exact (sumB_range _ hh).1
  · rw [e]
    simp only [Option.bind_some]
    rw [if_neg hc]
    simp only [supercargolaw03_MarkCut.j0]
    rw [if_pos trivial, if_neg hc, ByteArray.toList_eq]
    rfl
end Go.Proofs.YtkfcllapmkeihaaDoor.Pure
