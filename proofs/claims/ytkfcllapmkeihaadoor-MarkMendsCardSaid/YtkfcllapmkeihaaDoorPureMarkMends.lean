/- MarkMends' pure statement. -/
import Derived.Test.YtkfcllapmkeihaaDoorRefM
namespace Go.Proofs.YtkfcllapmkeihaaDoor.Pure
open Go.RowKit Go.Proofs.YtkfcllapmkeihaaDoor.X Go.Proofs.YtkfcllapmkeihaaDoor.Ext Go.Proofs.YtkfcllapmkeihaaDoor.Ref Go.Proofs.YtkfcllapmkeihaaDoorW.PrintWords
theorem MarkMends (a0 : ByteArray) (w0 : a0.size ≤ 9223372036854775807) : ∃ k, supercargolaw03_MarkMends.f k a0 = some true := by
  refine ⟨1925, ?_⟩
  unfold supercargolaw03_MarkMends.f
  rw [awake_f]
  simp only [Option.bind_some]
  rw [if_pos trivial]
  by_cases c : (a0.size : Int) > 200
  · rw [if_pos c]
  rw [if_neg c, refMend_f]
  unfold mark_Mend.f mark_Right.f
  rw [if_pos w0, if_pos w0]
  simp only [Option.bind_some]
  have hl : (if a0.size = 12 then mendL a0 else []).length ≤ 900 := by
    split
    · rename_i h; exact mendL_length a0 h
    · simp
  rw [same_f _ (by omega) _ (by omega)]
  simp only [Option.bind_some]
  rw [if_pos trivial]
  by_cases h : rightB a0 = true
  · rw [if_pos h, if_pos (right_size h), mend_right h]
    rfl
  · rw [if_neg h]
end Go.Proofs.YtkfcllapmkeihaaDoor.Pure
