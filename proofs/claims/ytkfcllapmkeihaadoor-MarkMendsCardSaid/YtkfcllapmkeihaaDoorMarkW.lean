/- The walks of package mark's functions that take a function: what each returns, as plain functions of the bytes. -/
import Derived.Test.YtkfcllapmkeihaaDoorProg
import Derived.WalkKit
import Derived.WalkSpells
import Derived.WalkLawsBesides
import Derived.Lib.Hide
import Derived.Deep.LoopGhost
import Derived.Deep.QuietTactic
import Derived.BigQuiet
import Derived.Lib.AppendIntMem
import Derived.Test.YtkfcllapmkeihaaDoorShelf
namespace Go.Proofs.YtkfcllapmkeihaaDoor.Ext
open Go.RowKit

def isLow (c : UInt8) : Bool := decide (97 ≤ c.toNat) && decide (c.toNat ≤ 122)
def isDig (c : UInt8) : Bool := decide (48 ≤ c.toNat) && decide (c.toNat ≤ 57)
def isSign (c : UInt8) : Bool := isLow c || (isDig c || (c.toNat : Int) == 45)

def allB (p : UInt8 → Bool) (s : ByteArray) : Bool := s.data.toList.all p

theorem take_next (s : ByteArray) (k : Nat) (h : k < s.size) : s.data.toList.take (k + 1) = s.data.toList.take k ++ [s[k]] := by
  rw [List.take_succ_eq_append_getElem (by simpa using h)]; rfl
theorem all_next (p : UInt8 → Bool) (s : ByteArray) (k : Nat) (h : k < s.size) (h1 : (s.data.toList.take k).all p = true) (h2 : p s[k] = true) : (s.data.toList.take (k + 1)).all p = true := by
  rw [take_next s k h, List.all_append, h1]; simp [h2]
theorem all_not (p : UInt8 → Bool) (s : ByteArray) (k : Nat) (h : k < s.size) (h2 : p s[k] = false) : allB p s = false := by
  unfold allB
  rw [List.all_eq_false]
  exact ⟨s[k], by rw [show s[k] = s.data.toList[k]'(by simpa using h) from rfl]; exact List.getElem_mem _, by simp [h2]⟩
theorem all_whole (p : UInt8 → Bool) (s : ByteArray) (k : Nat) (h : ¬ k < s.size) (h1 : (s.data.toList.take k).all p = true) : allB p s = true := by
  unfold allB
  rwa [List.take_of_length_le (by simp; omega)] at h1

theorem lower_any (c : UInt8) (w : World) :
    Calls Tryd.prog 27 #[.int .u8 (c.toNat : Int)] w fun e w' => e = .returned (.bool (isLow c)) ∧ w = w' := by
  by_cases h1 : 97 ≤ c.toNat <;> by_cases h2 : c.toNat ≤ 122
  all_goals
    have z1 : (97 : Int) ≤ (c.toNat : Int) ↔ 97 ≤ c.toNat := by omega
    have z2 : (c.toNat : Int) ≤ 122 ↔ c.toNat ≤ 122 := by omega
    go_enter Tryd.func27, Tryd.ntmps27
    go_wp2
    all_goals first | (exfalso; omega) | (go_ret; exact ⟨by simp [isLow, h1, h2], rfl⟩)

theorem digit_any (c : UInt8) (w : World) :
    Calls Tryd.prog 30 #[.int .u8 (c.toNat : Int)] w fun e w' => e = .returned (.bool (isDig c)) ∧ w = w' := by
  by_cases h1 : 48 ≤ c.toNat <;> by_cases h2 : c.toNat ≤ 57
  all_goals
    have z1 : (48 : Int) ≤ (c.toNat : Int) ↔ 48 ≤ c.toNat := by omega
    have z2 : (c.toNat : Int) ≤ 57 ↔ c.toNat ≤ 57 := by omega
    go_enter Tryd.func30, Tryd.ntmps30
    go_wp2
    all_goals first | (exfalso; omega) | (go_ret; exact ⟨by simp [isDig, h1, h2], rfl⟩)

set_option maxHeartbeats 1000000 in
theorem sign_any (c : UInt8) (w : World) :
    Calls Tryd.prog 33 #[.int .u8 (c.toNat : Int)] w fun e w' => e = .returned (.bool (isSign c)) ∧ w = w' := by
  have l1 := fun w => lower_any c w
  have l2 := fun w => digit_any c w
  cases h1 : isLow c
  · rw [h1] at l1
    cases h2 : isDig c
    · rw [h2] at l2
      go_enter Tryd.func33, Tryd.ntmps33
      go_wp2_with fail
      refine (l1 _).mono ?_
      rintro e w' ⟨rfl, rfl⟩
      go_wp2_with fail
      refine (l2 _).mono ?_
      rintro e w' ⟨rfl, rfl⟩
      go_wp2_with fail
      go_ret
      refine ⟨?_, rfl⟩
      simp [isSign, h1, h2]
    · rw [h2] at l2
      go_enter Tryd.func33, Tryd.ntmps33
      go_wp2_with fail
      refine (l1 _).mono ?_
      rintro e w' ⟨rfl, rfl⟩
      go_wp2_with fail
      refine (l2 _).mono ?_
      rintro e w' ⟨rfl, rfl⟩
      go_wp2_with fail
      go_ret
      refine ⟨?_, rfl⟩
      simp [isSign, h1, h2]
  · rw [h1] at l1
    go_enter Tryd.func33, Tryd.ntmps33
    go_wp2_with fail
    refine (l1 _).mono ?_
    rintro e w' ⟨rfl, rfl⟩
    go_wp2_with fail
    go_ret
    refine ⟨?_, rfl⟩
    simp [isSign, h1]

set_option maxHeartbeats 1000000 in
theorem all_any (g : Nat) (p : UInt8 → Bool) (eg : ∀ args w, (callFunc g args).run Tryd.prog w = .ok (.enter g args) w)
    (hp : ∀ (c : UInt8) (w : World), Calls Tryd.prog g #[.int .u8 (c.toNat : Int)] w fun e w' => e = .returned (.bool (p c)) ∧ w = w')
    (s : ByteArray) (hs : s.size ≤ 9223372036854775807) (w : World) :
    Calls Tryd.prog 26 #[.string s, .func (.func g) #[] #[]] w fun e w' => e = .returned (.bool (allB p s)) ∧ w = w' := by
  go_enter Tryd.func26, Tryd.ntmps26
  go_wp2
  go_loop [5, 8] (fun _ i => ∃ k : Nat, k ≤ s.size ∧ i = .int .i64 k ∧ Aside ((s.data.toList.take k).all p = true)) (fun _ i => s.size - (intOf i).toNat)
  case atStart => exact ⟨0, Nat.zero_le _, rfl, by simp [Aside]⟩
  case round =>
    obtain ⟨k, hk, rfl, A⟩ := hrel
    by_cases hlt : k < s.size
    · have hcall := fun w => hp s[k] w
      cases hq : p s[k] with
      | true =>
        have A2 : Aside ((s.data.toList.take (k + 1)).all p = true) := all_next p s k hlt A.out hq
        rw [hq] at hcall
        go_wp2_with fail
        refine (hcall _).mono ?_
        rintro e w' ⟨rfl, rfl⟩
        go_wp2_with fail
        go_round
        case measure => simp [intOf]; omega
        case rel => exact ⟨k + 1, by omega, by go_num, A2⟩
      | false =>
        have A2 : Aside (allB p s = false) := all_not p s k hlt hq
        rw [hq] at hcall
        go_wp2_with fail
        refine (hcall _).mono ?_
        rintro e w' ⟨rfl, rfl⟩
        go_wp2_with fail
        go_ret
        exact ⟨by rw [A2.out]; rfl, rfl⟩
    · have A2 : Aside (allB p s = true) := all_whole p s k hlt A.out
      go_wp2
      go_ret
      exact ⟨by rw [A2.out]; rfl, rfl⟩

theorem all_lower (s : ByteArray) (hs : s.size ≤ 9223372036854775807) (w : World) : Calls Tryd.prog 26 #[.string s, .func (.func 27) #[] #[]] w fun e w' => e = .returned (.bool (allB isLow s)) ∧ w = w' :=
  all_any _ _ (enters_of Tryd.func27 (by kernel_rfl) rfl) lower_any s hs w
theorem all_digit (s : ByteArray) (hs : s.size ≤ 9223372036854775807) (w : World) : Calls Tryd.prog 26 #[.string s, .func (.func 30) #[] #[]] w fun e w' => e = .returned (.bool (allB isDig s)) ∧ w = w' :=
  all_any _ _ (enters_of Tryd.func30 (by kernel_rfl) rfl) digit_any s hs w
theorem all_sign (s : ByteArray) (hs : s.size ≤ 9223372036854775807) (w : World) : Calls Tryd.prog 26 #[.string s, .func (.func 33) #[] #[]] w fun e w' => e = .returned (.bool (allB isSign s)) ∧ w = w' :=
  all_any _ _ (enters_of Tryd.func33 (by kernel_rfl) rfl) sign_any s hs w

def nameB (s : ByteArray) : Bool := decide (1 ≤ s.size) && (decide (s.size ≤ 16) && allB isSign s)

set_option maxHeartbeats 1000000 in
theorem Name_any (s : ByteArray) (hs : s.size ≤ 9223372036854775807) (w : World) :
    Calls Tryd.prog 18 #[.string s] w fun e w' => e = .returned (.bool (nameB s)) ∧ w = w' := by
  by_cases h1 : 1 ≤ s.size
  · by_cases h2 : s.size ≤ 16
    · go_enter Tryd.func18, Tryd.ntmps18
      go_wp2_with fail
      refine (all_sign _ hs _).mono ?_
      rintro e w' ⟨rfl, rfl⟩
      go_wp2_with fail
      go_ret
      exact ⟨by simp [nameB, h1, h2], rfl⟩
    · go_enter Tryd.func18, Tryd.ntmps18
      go_wp2_with fail
      go_ret
      exact ⟨by simp [nameB, h2], rfl⟩
  · go_enter Tryd.func18, Tryd.ntmps18
    go_wp2_with fail
    go_ret
    exact ⟨by simp [nameB, h1], rfl⟩

/-- The sign at a place. -/
def sgn (s : ByteArray) (k : Nat) : UInt8 := s.data.toList.getD k 0
theorem sgn_at (s : ByteArray) (k : Nat) (h : k < s.size) : s[k] = sgn s k := by
  unfold sgn
  have h' : k < s.data.toList.length := by simpa using h
  rw [List.getD_eq_getElem?_getD, List.getElem?_eq_getElem h']
  rfl
/-- A sign's value. -/
def valI (c : UInt8) : Int := if isLow c then (c.toNat : Int) - 96 else if isDig c then (c.toNat : Int) - 48 else 0
theorem valI_range (c : UInt8) : 0 ≤ valI c ∧ valI c ≤ 26 := by
  unfold valI isLow isDig
  split
  · rename_i h; simp at h; omega
  · split
    · rename_i h; simp at h; omega
    · omega
theorem valI_dig (c : UInt8) (h : isDig c = true) : 0 ≤ valI c ∧ valI c ≤ 9 := by
  have h' := h
  unfold isDig at h'
  simp at h'
  unfold valI isLow
  rw [if_neg (by simp; omega), if_pos h]
  omega

theorem value_any (c : UInt8) (h : isLow c = true ∨ isDig c = true) (w : World) :
    Calls Tryd.prog 35 #[.int .u8 (c.toNat : Int)] w fun e w' => e = .returned (.int .i64 (valI c)) ∧ w = w' := by
  have l1 := fun w => lower_any c w
  cases h1 : isLow c
  · rw [h1] at l1
    have h2 : isDig c = true := by simpa [h1] using h
    have h3 : 48 ≤ c.toNat ∧ c.toNat ≤ 57 := by simpa [isDig] using h2
    obtain ⟨h3, h4⟩ := h3
    have hv : Hid (valI c = (c.toNat : Int) - 48) := by show valI c = _; simp [valI, h1, h2]
    clear h h2
    go_enter Tryd.func35, Tryd.ntmps35
    go_wp2_with fail
    refine (l1 _).mono ?_
    rintro e w' ⟨rfl, rfl⟩
    go_wp2_with fail
    go_ret
    refine ⟨?_, rfl⟩
    rw [hv.out]
    try rfl
    try (simp; try omega)
  · rw [h1] at l1
    have h3 : 97 ≤ c.toNat ∧ c.toNat ≤ 122 := by simpa [isLow] using h1
    obtain ⟨h3, h4⟩ := h3
    have hv : Hid (valI c = (c.toNat : Int) - 96) := by show valI c = _; simp [valI, h1]
    clear h
    go_enter Tryd.func35, Tryd.ntmps35
    go_wp2_with fail
    refine (l1 _).mono ?_
    rintro e w' ⟨rfl, rfl⟩
    go_wp2_with fail
    go_ret
    refine ⟨?_, rfl⟩
    rw [hv.out]
    try rfl
    try (simp; try omega)
end Go.Proofs.YtkfcllapmkeihaaDoor.Ext
