/- mark.Mend's contract in the form in which the printed functions take it. -/
import Derived.Test.YtkfcllapmkeihaaDoorExt
import Derived.Test.YtkfcllapmkeihaaDoorMend
namespace Go.Proofs.YtkfcllapmkeihaaDoor.Ext
open Go.RowKit Go.Proofs.YtkfcllapmkeihaaDoorW.PrintWords

def mendL (s : ByteArray) : List ByteArray := (mendLL s).map fun l => ⟨l.toArray⟩
def mark_Mend.f (a0 : ByteArray) : Option (List ByteArray) := if a0.size ≤ 9223372036854775807 then some (if a0.size = 12 then mendL a0 else []) else none
theorem Mend_short (s : ByteArray) (h12 : ¬ s.size = 12) (w : World) :
    Calls Tryd.prog 23 #[.string s] w fun e w' => e = .returned (.slice none 0 0) ∧ w = w' := by
  have hb : ((s.size : Int) != 12) = true := by rw [bne_iff_ne]; omega
  go_enter Tryd.func23, Tryd.ntmps23
  go_wp2_with fail
  go_ret
  exact ⟨rfl, rfl⟩
theorem mark_Mend.calls (a0 : ByteArray) (r : List ByteArray) (w : World) (h : mark_Mend.f a0 = some r) :
    Calls Tryd.prog 23 #[.string a0] w fun e w' => ∃ v0_ : Value, e = .returned (v0_) ∧ Kd.R Kd.string 9 w' w.heap.size (fun _ => True) v0_ r ∧ Below w.heap.size w w' := by
  unfold mark_Mend.f at h
  split at h
  · injection h with h
    by_cases h12 : a0.size = 12
    · rw [if_pos h12] at h
      refine (Mend_12 a0 h12 w).mono ?_
      rintro e w' ⟨v, rfl, ho, hb⟩
      refine ⟨v, rfl, ?_, hb⟩
      rw [← h]
      refine Kd.R_of_own ?_ (fun _ _ => trivial)
      have e1 : (mendL a0).length = (mendLL a0).length := by simp [mendL]
      have e2 : encs Value.string (mendL a0) = (mendLL a0).map Go.Proofs.encStr := by simp [mendL, encs, Go.Proofs.encStr]
      rw [e1, e2]
      exact ho
    · rw [if_neg h12] at h
      refine (Mend_short a0 h12 w).mono ?_
      rintro e w' ⟨rfl, rfl⟩
      rw [← h]
      exact ⟨_, rfl, Kd.R_nil _ _ _ _ _, Below.refl _ _⟩
  · cases h
end Go.Proofs.YtkfcllapmkeihaaDoor.Ext
