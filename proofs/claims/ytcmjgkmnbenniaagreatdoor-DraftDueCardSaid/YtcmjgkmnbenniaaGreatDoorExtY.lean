/- The tables that the row lists ('TB'); strconv.FormatInt, strings.Repeat in the form in which the printed functions take them. -/
import Derived.Test.YtcmjgkmnbenniaaGreatDoorExtD
import Derived.Lib.LaidTab
namespace Go.Proofs.YtcmjgkmnbenniaaGreatDoor.Ext
open Go.RowKit Go.Proofs.YtcmjgkmnbenniaaGreatDoorW.PrintWords
theorem keepy {w w' : World} {p : Addr} {v : Value} (hb : Below w.heap.size w w') (hc : w.cell? p = some v) : w'.cell? p = some v := (hb.cell (World.block_lt_of_cell? w _ hc)).trans hc
def kindB (k : Nat) : ByteArray := match k with | 0 => ⟨#[115, 105, 103, 104, 116]⟩ | 1 => ⟨#[97, 102, 116, 101, 114, 45, 115, 105, 103, 104, 116]⟩ | _ => ⟨#[97, 102, 116, 101, 114, 45, 100, 97, 116, 101]⟩
/-- The draft's names of kinds lie in their variable. -/
def KT (w : World) : Prop := w.cell? ⟨0, 0, none⟩ = some (.string (kindB 0)) ∧ w.cell? ⟨0, 1, none⟩ = some (.string (kindB 1)) ∧ w.cell? ⟨0, 2, none⟩ = some (.string (kindB 2))
/-- The tables lie in memory, here and in every later world. -/
def TB (w : World) : Prop := ∀ W, Below w.heap.size w W → Lib.TabIs Tryz.prog W "internal/strconv.uint64pow10" .u64 Lib.pow10Tab ∧ KT W
theorem TB.below {w w' : World} (h : TB w) (hb : Below w.heap.size w w') : TB w' := fun W hW => h W (hb.trans (hW.mono hb.size))
theorem TB.here {w : World} (h : TB w) : Lib.TabIs Tryz.prog w "internal/strconv.uint64pow10" .u64 Lib.pow10Tab := (h w (Below.refl _ _)).1
theorem TB.kinds {w : World} (h : TB w) : KT w := (h w (Below.refl _ _)).2
def strconv_FormatInt.f (a0 a1 : Int) : Option ByteArray := if -9223372036854775808 ≤ a0 ∧ a0 ≤ 9223372036854775807 ∧ a1 = 10 then some ⟨(Lib.itoa a0).toArray⟩ else none
theorem strconv_FormatInt.calls (a0 a1 : Int) (r : ByteArray) (w : World) (h : strconv_FormatInt.f a0 a1 = some r) (HT : TB w) :
    Calls Tryz.prog 32 #[.int .i64 a0, .int .i64 a1] w fun e w' => e = .returned (.string r) ∧ Below w.heap.size w w' := by
  unfold strconv_FormatInt.f at h
  split at h
  · rename_i hc
    obtain ⟨h0, h1, rfl⟩ := hc
    cases h
    exact (Tryz.strconv_FormatInt_10 a0 h0 h1 w HT.here).mono fun _ _ ⟨he, k, os, hw⟩ => ⟨he, hw ▸ Lib.below_grow _ w (Nat.le_refl _) k os⟩
  · cases h
def strings_Repeat.f (a0 : ByteArray) (a1 : Int) : Option ByteArray := if 0 ≤ a1 ∧ a1 ≤ 1000 ∧ a0.size ≤ 1000 then some ⟨(Lib.repeatL a0.data.toList a1.toNat).toArray⟩ else none
theorem strings_Repeat.calls (a0 : ByteArray) (a1 : Int) (r : ByteArray) (w : World) (h : strings_Repeat.f a0 a1 = some r) :
    Calls Tryz.prog 33 #[.string a0, .int .i64 a1] w fun e w' => e = .returned (.string r) ∧ Below w.heap.size w w' := by
  unfold strings_Repeat.f at h
  split at h
  · rename_i hc
    obtain ⟨h0, h1, h2⟩ := hc
    cases h
    obtain ⟨m, rfl⟩ : ∃ m : Nat, a1 = m := ⟨a1.toNat, by omega⟩
    have hm : a0.size * m ≤ 1000 * 1000 := Nat.mul_le_mul h2 (by omega)
    have := Tryz.strings_Repeat a0 m w (by omega) (by omega)
    simpa using this
  · cases h
end Go.Proofs.YtcmjgkmnbenniaaGreatDoor.Ext
