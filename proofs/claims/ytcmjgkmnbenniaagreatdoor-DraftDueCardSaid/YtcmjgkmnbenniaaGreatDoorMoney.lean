/- money.currency: three letters A to Z. -/
import Derived.Shelf.Lay
import Derived.Test.YtcmjgkmnbenniaaGreatDoorName
import Derived.Test.YtcmjgkmnbenniaaGreatDoorShelf
import Derived.Test.YtcmjgkmnbenniaaGreatDoorWWords
namespace Go.Proofs.YtcmjgkmnbenniaaGreatDoor.Ext
open Go.RowKit Go.Proofs.YtcmjgkmnbenniaaGreatDoorW.PrintWords

/-- Is a rune no capital letter? -/
def noCap (x : Nat) : Bool := decide (x < 65) || decide (90 < x)
def isCap (c : UInt8) : Bool := decide (65 ≤ c.toNat) && decide (c.toNat ≤ 90)
theorem noCap_walk (x : Nat) (w : World) :
    Calls Tryz.prog 72 #[.int .i32 (x : Int)] w fun e w' => e = .returned (.bool (noCap x)) ∧ w = w' := by
  by_cases h1 : (x : Int) < 65
  · go_enter Tryz.func72, Tryz.ntmps72
    go_wp2
    go_ret
    exact ⟨by have : x < 65 := by omega
              simp [noCap, this], rfl⟩
  · by_cases h2 : (90 : Int) < x
    · go_enter Tryz.func72, Tryz.ntmps72
      go_wp2
      go_ret
      exact ⟨by have : 90 < x := by omega
                simp [noCap, this], rfl⟩
    · go_enter Tryz.func72, Tryz.ntmps72
      go_wp2
      go_ret
      exact ⟨by have : ¬ x < 65 := by omega
                have : ¬ 90 < x := by omega
                simp [noCap, *], rfl⟩
theorem noCap_grows (w : World) : PredGrows Tryz.prog 72 #[] noCap w := fun W x _ _ => by
  refine (noCap_walk x W).mono ?_
  rintro e w' ⟨rfl, rfl⟩
  exact ⟨rfl, Below.refl _ _⟩
/-! ### the runes of a text are capitals just if its bytes are -/
theorem decode_low (s : ByteArray) (i : Nat) (h : (s.get! i).toNat < 128) : Go.Utf8.decode s i = ((s.get! i).toNat, 1) := by
  unfold Go.Utf8.decode
  simp only [Nat.add_zero]
  rw [if_pos h]
theorem decode_high (s : ByteArray) (i : Nat) (h : ¬ (s.get! i).toNat < 128) : 128 ≤ (Go.Utf8.decode s i).1 := by
  unfold Go.Utf8.decode
  simp only [Nat.add_zero]
  rw [if_neg h]
  have hr : 128 ≤ Go.Utf8.runeError := by decide
  split
  · split
    · assumption
    · exact hr
  · split
    · split
      · rename_i _ c; simp only [Bool.and_eq_true, decide_eq_true_eq, ge_iff_le] at c; exact Nat.le_trans (by decide) c.1
      · exact hr
    · split
      · split
        · rename_i _ c; simp only [Bool.and_eq_true, decide_eq_true_eq, ge_iff_le] at c; exact Nat.le_trans (by decide) c.1
        · exact hr
      · exact hr
theorem get_sgn (s : ByteArray) (i : Nat) (h : i < s.size) : s.get! i = s.data.toList.getD i 0 := by
  have h' : i < s.data.toList.length := by simpa using h
  rw [List.getD_eq_getElem?_getD, List.getElem?_eq_getElem h']
  show s.data[i]! = _
  rw [getElem!_pos s.data i h]
  rfl
theorem caps_from (s : ByteArray) : ∀ (f i : Nat), s.size ≤ i + f → (0 ≤ Go.Lib.idxFuncFrom noCap true s f i ↔ ∃ j, i ≤ j ∧ j < s.size ∧ isCap (s.data.toList.getD j 0) = false)
  | 0, i, h => by
    unfold Go.Lib.idxFuncFrom
    constructor
    · intro h; omega
    · rintro ⟨j, h1, h2, _⟩; omega
  | f + 1, i, h => by
    unfold Go.Lib.idxFuncFrom
    by_cases hi : i < s.size
    · rw [if_pos hi]
      have hg := get_sgn s i hi
      have hcap : noCap (Go.Utf8.decode s i).1 = true ↔ isCap (s.data.toList.getD i 0) = false := by
        rw [← hg]
        by_cases c : (s.get! i).toNat < 128
        · rw [decode_low s i c]
          unfold noCap isCap
          simp only [Bool.or_eq_true, decide_eq_true_eq, Bool.and_eq_false_iff, decide_eq_false_iff_not]
          omega
        · have := decode_high s i c
          constructor
          · intro _
            unfold isCap
            simp only [Bool.and_eq_false_iff, decide_eq_false_iff_not]
            omega
          · intro _
            unfold noCap
            simp only [Bool.or_eq_true, decide_eq_true_eq]
            omega
      by_cases hp : noCap (Go.Utf8.decode s i).1 = true
      · rw [if_pos hp]
        exact ⟨fun _ => ⟨i, Nat.le_refl _, hi, hcap.1 hp⟩, fun _ => by omega⟩
      · rw [if_neg hp]
        have hlow : (s.get! i).toNat < 128 := by
          by_cases c : (s.get! i).toNat < 128
          · exact c
          · exfalso
            have := decode_high s i c
            apply hp
            unfold noCap
            simp only [Bool.or_eq_true, decide_eq_true_eq]
            omega
        rw [decode_low s i hlow, caps_from s f (i + 1) (by omega)]
        constructor
        · rintro ⟨j, h1, h2⟩
          exact ⟨j, by omega, h2⟩
        · rintro ⟨j, h1, h2, h3⟩
          by_cases e : j = i
          · subst e; exact absurd (hcap.2 h3) hp
          · exact ⟨j, by omega, h2, h3⟩
    · rw [if_neg hi]
      constructor
      · intro h; omega
      · rintro ⟨j, h1, h2, _⟩; omega
def curB (s : ByteArray) : Bool := decide (s.size = 3) && allB isCap s
theorem caps_iff (s : ByteArray) : decide (0 ≤ Go.Lib.idxFunc noCap true s) = !allB isCap s := by
  rw [Bool.eq_iff_iff, decide_eq_true_eq, Go.Lib.idxFunc, caps_from s s.size 0 (by omega), Bool.not_eq_true', allB, List.all_eq_false]
  constructor
  · rintro ⟨j, _, h2, h3⟩
    have h' : j < s.data.toList.length := by simpa using h2
    rw [List.getD_eq_getElem?_getD, List.getElem?_eq_getElem h'] at h3
    exact ⟨_, List.getElem_mem h', by simpa using h3⟩
  · rintro ⟨x, hx, h3⟩
    obtain ⟨j, hj, rfl⟩ := List.getElem_of_mem hx
    refine ⟨j, Nat.zero_le _, by simpa using hj, ?_⟩
    rw [List.getD_eq_getElem?_getD, List.getElem?_eq_getElem hj]
    simpa using h3
theorem currency_any (s : ByteArray) (w : World) :
    Calls Tryz.prog 47 #[.string s] w fun e w' => e = .returned (.bool (curB s)) ∧ Below w.heap.size w w' := by
  by_cases h : (s.size : Int) = 3
  · have hb : ((s.size : Int) == 3) = true := by rw [beq_iff_eq]; exact h
    go_enter Tryz.func47, Tryz.ntmps47
    go_wp2_with fail
    refine (Tryz.strings_ContainsFunc_grows 72 #[] (enters_of Tryz.func72 (by kernel_rfl) rfl) noCap s _ (noCap_grows _)).mono ?_
    rintro e w' ⟨rfl, hB⟩
    rw [caps_iff]
    go_wp2_with fail
    go_ret
    refine ⟨?_, by simpa using hB⟩
    have : s.size = 3 := by omega
    simp [curB, this]
  · have hb : ((s.size : Int) == 3) = false := by rw [beq_eq_false_iff_ne]; exact h
    go_enter Tryz.func47, Tryz.ntmps47
    go_wp2_with fail
    go_ret
    refine ⟨?_, Below.refl _ _⟩
    have : ¬ s.size = 3 := by omega
    simp [curB, this]
end Go.Proofs.YtcmjgkmnbenniaaGreatDoor.Ext
