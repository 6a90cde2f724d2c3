/- Contracts in the form in which the printed functions take them: mark.Name, money.currency. -/
import Derived.Test.YtcmjgkmnbenniaaGreatDoorMoney
namespace Go.Proofs.YtcmjgkmnbenniaaGreatDoor.Ext
open Go.RowKit Go.Proofs.YtcmjgkmnbenniaaGreatDoorW.PrintWords
theorem drawn_refl {P : Program} {f : FuncId} {args : Array Value} {w : World} {v : Value} (h : Calls P f args w fun e w' => e = .returned v ∧ w = w') :
    Calls P f args w fun e w' => e = .returned v ∧ Drawn0 w w' := h.mono fun _ _ ⟨he, hw⟩ => ⟨he, hw ▸ Drawn0.refl _⟩
def mark_Name.f (a0 : ByteArray) : Option Bool := if a0.size ≤ 9223372036854775807 then some (nameB a0) else none
theorem mark_Name.calls (a0 : ByteArray) (r : Bool) (w : World) (h : mark_Name.f a0 = some r) :
    Calls Tryz.prog 23 #[.string a0] w fun e w' => e = .returned (.bool r) ∧ Drawn0 w w' := by
  unfold mark_Name.f at h
  split at h
  · rename_i hs; cases h; exact drawn_refl (Name_any a0 hs w)
  · cases h
def money_currency.f (a0 : ByteArray) : Option Bool := some (curB a0)
theorem money_currency.calls (a0 : ByteArray) (r : Bool) (w : World) (h : money_currency.f a0 = some r) :
    Calls Tryz.prog 47 #[.string a0] w fun e w' => e = .returned (.bool r) ∧ Below w.heap.size w w' := by
  unfold money_currency.f at h
  cases h
  exact currency_any a0 w
end Go.Proofs.YtcmjgkmnbenniaaGreatDoor.Ext
