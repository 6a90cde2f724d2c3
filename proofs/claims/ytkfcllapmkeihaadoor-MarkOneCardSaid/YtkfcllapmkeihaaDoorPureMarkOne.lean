/- MarkOne's pure statement. -/
import Derived.Test.YtkfcllapmkeihaaDoorRefM
import Derived.Test.YtkfcllapmkeihaaDoorXx11
namespace Go.Proofs.YtkfcllapmkeihaaDoor.Pure
open Go.RowKit Go.Proofs.YtkfcllapmkeihaaDoor.X Go.Proofs.YtkfcllapmkeihaaDoor.Ext Go.Proofs.YtkfcllapmkeihaaDoor.Ref Go.Proofs.YtkfcllapmkeihaaDoorW.PrintWords
theorem one_l (t : ByteArray) (l : List ByteArray) (hl : l.length ≤ 2000) (d : Nat) : ∀ (k i : Nat), i + d = l.length → d < k → t ∈ l.drop i → supercargolaw03_MarkOne.l0 k t l (i : Int) = some true := by
  induction d with
  | zero =>
    intro k i h hk hm
    rw [List.drop_of_length_le (by omega)] at hm
    cases hm
  | succ d ih =>
    intro k i h hk hm
    obtain ⟨k, rfl⟩ : ∃ m, k = m + 1 := ⟨k - 1, by omega⟩
    simp only [supercargolaw03_MarkOne.l0]
    have hi : i < l.length := by omega
    rw [if_pos (by omega), if_pos (by omega)]
    have e : rdOf ByteArray.empty l (i : Int) = l[i] := by unfold rdOf; rw [Int.toNat_natCast, List.getD_eq_getElem?_getD, List.getElem?_eq_getElem hi]; rfl
    rw [e]
    by_cases c : l[i] = t
    · rw [if_pos (toList_iff0.2 c)]
    · rw [if_neg (fun q => c (toList_iff0.1 q)), w64 (by omega) (by omega), show ((i : Int) + 1) = ((i + 1 : Nat) : Int) by omega]
      refine ih k (i + 1) (by omega) (by omega) ?_
      rw [List.drop_eq_getElem_cons hi] at hm
      rcases List.mem_cons.1 hm with q | q
      · exact absurd q.symm c
      · exact q
theorem MarkOne (a0 : ByteArray) (a1 a2 a3 : Int) (w0 : a0.size ≤ 9223372036854775807) (_ : (Lit.int .i64 a1).wf = true) (_ : (Lit.int .i64 a2).wf = true) (w3 : (Lit.int .u8 a3).wf = true) : ∃ k, supercargolaw03_MarkOne.f k a0 a1 a2 a3 = some true := by
  obtain ⟨K, hK⟩ : ∃ K : Nat, 1900 ≤ K := ⟨1900, by omega⟩
  refine ⟨K + 2, ?_⟩
  unfold supercargolaw03_MarkOne.f
  rw [awake_f]
  simp only [Option.bind_some]
  rw [if_pos trivial]
  obtain ⟨b, hb, rfl⟩ : ∃ b : Nat, b < 256 ∧ a3 = b := by
    have h3 : 0 ≤ a3 ∧ a3 ≤ 255 := by
      have h := w3
      simp only [Lit.wf, Bool.and_eq_true, decide_eq_true_eq] at h
      exact h
    exact ⟨a3.toNat, by omega, by omega⟩
  rcases make_cases a0 a1 w0 with ⟨g, e⟩ | ⟨_, c, hc, e⟩
  · rw [e]
    simp only [Option.bind_some]
    rw [if_pos trivial]
    have hz := makeB_size g
    have hr := make_right g
    have hj : ∀ s x, supercargolaw03_MarkOne.j0 (K + 2) a2 x s 0 true = some true := fun s x => by simp [supercargolaw03_MarkOne.j0]
    by_cases c1 : a2 < 0
    · rw [if_pos c1, hj]
    rw [if_neg c1]
    by_cases c2 : a2 > 11
    · rw [if_pos c2, hj]
    rw [if_neg c2]
    obtain ⟨i, rfl⟩ : ∃ i : Nat, a2 = i := ⟨a2.toNat, by omega⟩
    rw [if_pos (by omega), if_pos (by omega), bt_sgn]
    by_cases c3 : (((sgn (makeB a0 a1) i).toNat : Int) == (b : Int)) = true
    · rw [c3, hj]
    rw [Bool.eq_false_iff.2 c3]
    have hne : candM (makeB a0 a1) i (UInt8.ofNat b) ≠ makeB a0 a1 := by
      intro h
      have := cand_sgn (makeB a0 a1) i (UInt8.ofNat b) (by omega) i (by omega)
      rw [if_pos rfl, h] at this
      rw [this, UInt8.toNat_ofNat_of_lt' (by show b < 256; omega)] at c3
      simp at c3
    simp only [supercargolaw03_MarkOne.j0]
    rw [if_neg (by simp), if_pos (by omega), if_pos (by omega)]
    have e1 : wrap64 ((i : Int) + 1) = ((i + 1 : Nat) : Int) := by rw [w64 (by omega) (by omega)]; omega
    simp only [Option.bind_some, Int.toNat_natCast, e1]
    have hcand : (makeB a0 a1).extract 0 i ++ strOfNums [(b : Int)] ++ (makeB a0 a1).extract (i + 1) (makeB a0 a1).size = candM (makeB a0 a1) i (UInt8.ofNat b) := by
      rw [← candR_eq _ _ _ hb, show (b : Int) % 256 = b by omega]
    rw [if_pos (by rw [strOfNums_size]; simp; omega), if_pos (by omega), if_pos (by omega), if_pos (by rw [strOfNums_size]; simp; omega), hcand]
    have hcs := cand_size (makeB a0 a1) i (UInt8.ofNat b) (by omega)
    have hcr : rightB (candM (makeB a0 a1) i (UInt8.ofNat b)) = false := by
      rw [Bool.eq_false_iff]
      exact fun h => hne (cand_right hr i (by omega) _ h)
    rw [owner_f _ (by omega), num_f _ (by omega) _ (by omega)]
    unfold mark_Right.f
    rw [if_pos (by omega)]
    simp only [Option.bind_some]
    rw [hcr]
    simp only [Bool.false_eq_true, if_false]
    rw [if_pos (by rw [ByteArray.toList_eq]), show ((-1 : Int) != -1) = false by decide]
    simp only [supercargolaw03_MarkOne.j1]
    rw [if_neg (by simp)]
    unfold mark_Mend.f
    rw [if_pos (by omega), if_pos (by omega)]
    simp only [Option.bind_some]
    have hl := mendL_length (candM (makeB a0 a1) i (UInt8.ofNat b)) (by omega)
    refine one_l _ _ (by omega) (mendL (candM (makeB a0 a1) i (UInt8.ofNat b))).length _ 0 (by omega) (by omega) ?_
    rw [List.drop_zero, mend_mem _ (by omega)]
    refine ⟨i, by omega, sgn (makeB a0 a1) i, in_choices _ i (right_sign hr i (by omega)), ?_, fun h => hne h.symm, hr⟩
    refine ext_sgn (by rw [cand_size _ _ _ (by omega)]; omega) fun j hj => ?_
    rw [cand_sgn _ _ _ (by omega) j (by omega)]
    split
    · rename_i q; rw [q]
    · rename_i q; rw [cand_sgn _ _ _ (by omega) j (by omega), if_neg q]
  · rw [e]
    simp only [Option.bind_some]
    rw [if_neg hc]
    simp only [supercargolaw03_MarkOne.j0]
    rw [if_pos trivial, if_neg hc, ByteArray.toList_eq]
    rfl
end Go.Proofs.YtkfcllapmkeihaaDoor.Pure
