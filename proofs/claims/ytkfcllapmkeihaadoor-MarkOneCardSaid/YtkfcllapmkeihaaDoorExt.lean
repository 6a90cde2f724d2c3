/- Package mark's contracts in the form in which the printed functions take them. -/
import Derived.Test.YtkfcllapmkeihaaDoorMarkK
import Derived.Test.YtkfcllapmkeihaaDoorWWords
namespace Go.Proofs.YtkfcllapmkeihaaDoor.Ext
open Go.RowKit Go.Proofs.YtkfcllapmkeihaaDoorW.PrintWords

theorem drawn_refl {P : Program} {f : FuncId} {args : Array Value} {w : World} {v : Value} (h : Calls P f args w fun e w' => e = .returned v ∧ w = w') :
    Calls P f args w fun e w' => e = .returned v ∧ Drawn0 w w' := h.mono fun _ _ ⟨he, hw⟩ => ⟨he, hw ▸ Drawn0.refl _⟩

def mark_Name.f (a0 : ByteArray) : Option Bool := if a0.size ≤ 9223372036854775807 then some (nameB a0) else none
theorem mark_Name.calls (a0 : ByteArray) (r : Bool) (w : World) (h : mark_Name.f a0 = some r) :
    Calls Tryd.prog 18 #[.string a0] w fun e w' => e = .returned (.bool r) ∧ Drawn0 w w' := by
  unfold mark_Name.f at h
  split at h
  · rename_i hs; cases h; exact drawn_refl (Name_any a0 hs w)
  · cases h

def mark_Sum.f (a0 : ByteArray) : Option Int := if a0.size ≤ 9223372036854775807 then some (sumB a0) else none
theorem mark_Sum.calls (a0 : ByteArray) (r : Int) (w : World) (h : mark_Sum.f a0 = some r) :
    Calls Tryd.prog 20 #[.string a0] w fun e w' => e = .returned (.int .i64 r) ∧ Drawn0 w w' := by
  unfold mark_Sum.f at h
  split at h
  · rename_i hs; cases h; exact drawn_refl (Sum_any a0 hs w)
  · cases h

def mark_Right.f (a0 : ByteArray) : Option Bool := if a0.size ≤ 9223372036854775807 then some (rightB a0) else none
theorem mark_Right.calls (a0 : ByteArray) (r : Bool) (w : World) (h : mark_Right.f a0 = some r) :
    Calls Tryd.prog 15 #[.string a0] w fun e w' => e = .returned (.bool r) ∧ Drawn0 w w' := by
  unfold mark_Right.f at h
  split at h
  · rename_i hs; cases h; exact (Right_any a0 hs w).mono fun _ _ ⟨he, hw⟩ => ⟨he, ⟨hw⟩⟩
  · cases h

def mark_Make.f (a0 : ByteArray) (a1 : Int) : Option (ByteArray × Int) :=
  if a0.size ≤ 9223372036854775807 then some (if a0.size = 4 ∧ allB isLow a0 = true then (if 0 ≤ a1 ∧ a1 ≤ 999999 then (makeB a0 a1, 0) else (⟨#[]⟩, 3)) else (⟨#[]⟩, 1)) else none
theorem mark_Make.calls (a0 : ByteArray) (a1 : Int) (r1 : ByteArray) (r2 : Int) (w : World) (h : mark_Make.f a0 a1 = some (r1, r2)) (HT : TB w) :
    Calls Tryd.prog 12 #[.string a0, .int .i64 a1] w fun e w' => e = .returned (.tuple #[.string r1, .int .i64 r2]) ∧ Below w.heap.size w w' := by
  unfold mark_Make.f at h
  split at h
  · rename_i hs
    have hm := Make_any a0 a1 hs w HT
    split at h
    · rename_i h4
      rw [if_pos h4] at hm
      split at h
      · rename_i h5; cases h; rw [if_pos h5] at hm; exact hm
      · rename_i h5; cases h; rw [if_neg h5] at hm; exact hm
    · rename_i h4; cases h; rw [if_neg h4] at hm; exact hm
  · cases h
end Go.Proofs.YtkfcllapmkeihaaDoor.Ext
