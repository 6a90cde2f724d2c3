/- MarkTells' pure statement. -/
import Derived.Test.YtkfcllapmkeihaaDoorRefB
namespace Go.Proofs.YtkfcllapmkeihaaDoor.Pure
open Go.RowKit Go.Proofs.YtkfcllapmkeihaaDoor.X Go.Proofs.YtkfcllapmkeihaaDoor.Ext Go.Proofs.YtkfcllapmkeihaaDoor.Ref
theorem tells_j (a : ByteArray) (h : a.size ≤ 200) (o : ByteArray) (n : Int) (ho : o = if rightB a = true then a.extract 0 4 else ⟨#[]⟩) (hn : n = if rightB a = true then numR a else -1) :
    supercargolaw03_MarkTells.j0 300 a o n = some true := by
  simp only [supercargolaw03_MarkTells.j0]
  rw [owner_f a (by omega), num_f a (by omega) 299 (by omega), right_f a 299 (by omega), sum_f a 299 (by omega), name_f a (by omega) 299 (by omega)]
  unfold mark_Name.f mark_Sum.f mark_Right.f
  rw [if_pos (by omega), if_pos (by omega), if_pos (by omega)]
  simp only [Option.bind_some]
  rw [if_pos (by simp), if_pos (by simp), if_pos (by simp), ← ho, ← hn, if_pos rfl]
  simp
theorem MarkTells (a0 : ByteArray) (_ : a0.size ≤ 9223372036854775807) : ∃ k, supercargolaw03_MarkTells.f k a0 = some true := by
  refine ⟨300, ?_⟩
  unfold supercargolaw03_MarkTells.f
  rw [awake_f]
  simp only [Option.bind_some]
  rw [if_pos trivial]
  by_cases hbig : (a0.size : Int) > 200
  · rw [if_pos hbig]
  rw [if_neg hbig, right_f a0 300 (by omega)]
  simp only [Option.bind_some]
  by_cases hr : rightB a0 = true
  · have h12 := right_size hr
    rw [if_pos hr, if_pos (by decide), if_pos (by omega), refNumber_f a0 hr 300 (by omega)]
    simp only [Option.bind_some]
    exact tells_j a0 (by omega) _ _ (by rw [if_pos hr]) (by rw [if_pos hr])
  · rw [if_neg hr]
    exact tells_j a0 (by omega) _ _ (by rw [if_neg hr]) (by rw [if_neg hr])
end Go.Proofs.YtkfcllapmkeihaaDoor.Pure
