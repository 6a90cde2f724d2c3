/- mark.Name's walk (the first half of XMarkW, for seats that hold no more of package mark). -/
import Derived.Test.YtcmjgkmnbenniaaGreatDoorProg
import Derived.WalkKit
import Derived.WalkSpells
import Derived.WalkLawsBesides
import Derived.Lib.Hide
import Derived.Deep.LoopGhost
import Derived.Deep.QuietTactic
import Derived.BigQuiet
import Derived.Lib.AppendIntMem
import Derived.Shelf.Lay
namespace Go.Proofs.YtcmjgkmnbenniaaGreatDoor.Ext
open Go.RowKit

def isLow (c : UInt8) : Bool := decide (97 ≤ c.toNat) && decide (c.toNat ≤ 122)
def isDig (c : UInt8) : Bool := decide (48 ≤ c.toNat) && decide (c.toNat ≤ 57)
def isSign (c : UInt8) : Bool := isLow c || (isDig c || (c.toNat : Int) == 45)

def allB (p : UInt8 → Bool) (s : ByteArray) : Bool := s.data.toList.all p

theorem take_next (s : ByteArray) (k : Nat) (h : k < s.size) : s.data.toList.take (k + 1) = s.data.toList.take k ++ [s[k]] := by
  rw [List.take_succ_eq_append_getElem (by simpa using h)]; rfl
theorem all_next (p : UInt8 → Bool) (s : ByteArray) (k : Nat) (h : k < s.size) (h1 : (s.data.toList.take k).all p = true) (h2 : p s[k] = true) : (s.data.toList.take (k + 1)).all p = true := by
  rw [take_next s k h, List.all_append, h1]; simp [h2]
theorem all_not (p : UInt8 → Bool) (s : ByteArray) (k : Nat) (h : k < s.size) (h2 : p s[k] = false) : allB p s = false := by
  unfold allB
  rw [List.all_eq_false]
  exact ⟨s[k], by rw [show s[k] = s.data.toList[k]'(by simpa using h) from rfl]; exact List.getElem_mem _, by simp [h2]⟩
theorem all_whole (p : UInt8 → Bool) (s : ByteArray) (k : Nat) (h : ¬ k < s.size) (h1 : (s.data.toList.take k).all p = true) : allB p s = true := by
  unfold allB
  rwa [List.take_of_length_le (by simp; omega)] at h1

theorem lower_any (c : UInt8) (w : World) :
    Calls Tryz.prog 45 #[.int .u8 (c.toNat : Int)] w fun e w' => e = .returned (.bool (isLow c)) ∧ w = w' := by
  by_cases h1 : 97 ≤ c.toNat <;> by_cases h2 : c.toNat ≤ 122
  all_goals
    have z1 : (97 : Int) ≤ (c.toNat : Int) ↔ 97 ≤ c.toNat := by omega
    have z2 : (c.toNat : Int) ≤ 122 ↔ c.toNat ≤ 122 := by omega
    go_enter Tryz.func45, Tryz.ntmps45
    go_wp2
    all_goals first | (exfalso; omega) | (go_ret; exact ⟨by simp [isLow, h1, h2], rfl⟩)

theorem digit_any (c : UInt8) (w : World) :
    Calls Tryz.prog 46 #[.int .u8 (c.toNat : Int)] w fun e w' => e = .returned (.bool (isDig c)) ∧ w = w' := by
  by_cases h1 : 48 ≤ c.toNat <;> by_cases h2 : c.toNat ≤ 57
  all_goals
    have z1 : (48 : Int) ≤ (c.toNat : Int) ↔ 48 ≤ c.toNat := by omega
    have z2 : (c.toNat : Int) ≤ 57 ↔ c.toNat ≤ 57 := by omega
    go_enter Tryz.func46, Tryz.ntmps46
    go_wp2
    all_goals first | (exfalso; omega) | (go_ret; exact ⟨by simp [isDig, h1, h2], rfl⟩)

set_option maxHeartbeats 1000000 in
theorem sign_any (c : UInt8) (w : World) :
    Calls Tryz.prog 44 #[.int .u8 (c.toNat : Int)] w fun e w' => e = .returned (.bool (isSign c)) ∧ w = w' := by
  have l1 := fun w => lower_any c w
  have l2 := fun w => digit_any c w
  cases h1 : isLow c
  · rw [h1] at l1
    cases h2 : isDig c
    · rw [h2] at l2
      go_enter Tryz.func44, Tryz.ntmps44
      go_wp2_with fail
      refine (l1 _).mono ?_
      rintro e w' ⟨rfl, rfl⟩
      go_wp2_with fail
      refine (l2 _).mono ?_
      rintro e w' ⟨rfl, rfl⟩
      go_wp2_with fail
      go_ret
      refine ⟨?_, rfl⟩
      simp [isSign, h1, h2]
    · rw [h2] at l2
      go_enter Tryz.func44, Tryz.ntmps44
      go_wp2_with fail
      refine (l1 _).mono ?_
      rintro e w' ⟨rfl, rfl⟩
      go_wp2_with fail
      refine (l2 _).mono ?_
      rintro e w' ⟨rfl, rfl⟩
      go_wp2_with fail
      go_ret
      refine ⟨?_, rfl⟩
      simp [isSign, h1, h2]
  · rw [h1] at l1
    go_enter Tryz.func44, Tryz.ntmps44
    go_wp2_with fail
    refine (l1 _).mono ?_
    rintro e w' ⟨rfl, rfl⟩
    go_wp2_with fail
    go_ret
    refine ⟨?_, rfl⟩
    simp [isSign, h1]

set_option maxHeartbeats 1000000 in
theorem all_any (g : Nat) (p : UInt8 → Bool) (eg : ∀ args w, (callFunc g args).run Tryz.prog w = .ok (.enter g args) w)
    (hp : ∀ (c : UInt8) (w : World), Calls Tryz.prog g #[.int .u8 (c.toNat : Int)] w fun e w' => e = .returned (.bool (p c)) ∧ w = w')
    (s : ByteArray) (hs : s.size ≤ 9223372036854775807) (w : World) :
    Calls Tryz.prog 43 #[.string s, .func (.func g) #[] #[]] w fun e w' => e = .returned (.bool (allB p s)) ∧ w = w' := by
  go_enter Tryz.func43, Tryz.ntmps43
  go_wp2
  go_loop [5, 8] (fun _ i => ∃ k : Nat, k ≤ s.size ∧ i = .int .i64 k ∧ Aside ((s.data.toList.take k).all p = true)) (fun _ i => s.size - (intOf i).toNat)
  case atStart => exact ⟨0, Nat.zero_le _, rfl, by simp [Aside]⟩
  case round =>
    obtain ⟨k, hk, rfl, A⟩ := hrel
    by_cases hlt : k < s.size
    · have hcall := fun w => hp s[k] w
      cases hq : p s[k] with
      | true =>
        have A2 : Aside ((s.data.toList.take (k + 1)).all p = true) := all_next p s k hlt A.out hq
        rw [hq] at hcall
        go_wp2_with fail
        refine (hcall _).mono ?_
        rintro e w' ⟨rfl, rfl⟩
        go_wp2_with fail
        go_round
        case measure => simp [intOf]; omega
        case rel => exact ⟨k + 1, by omega, by go_num, A2⟩
      | false =>
        have A2 : Aside (allB p s = false) := all_not p s k hlt hq
        rw [hq] at hcall
        go_wp2_with fail
        refine (hcall _).mono ?_
        rintro e w' ⟨rfl, rfl⟩
        go_wp2_with fail
        go_ret
        exact ⟨by rw [A2.out]; rfl, rfl⟩
    · have A2 : Aside (allB p s = true) := all_whole p s k hlt A.out
      go_wp2
      go_ret
      exact ⟨by rw [A2.out]; rfl, rfl⟩

theorem all_lower (s : ByteArray) (hs : s.size ≤ 9223372036854775807) (w : World) : Calls Tryz.prog 43 #[.string s, .func (.func 45) #[] #[]] w fun e w' => e = .returned (.bool (allB isLow s)) ∧ w = w' :=
  all_any _ _ (enters_of Tryz.func45 (by kernel_rfl) rfl) lower_any s hs w
theorem all_digit (s : ByteArray) (hs : s.size ≤ 9223372036854775807) (w : World) : Calls Tryz.prog 43 #[.string s, .func (.func 46) #[] #[]] w fun e w' => e = .returned (.bool (allB isDig s)) ∧ w = w' :=
  all_any _ _ (enters_of Tryz.func46 (by kernel_rfl) rfl) digit_any s hs w
theorem all_sign (s : ByteArray) (hs : s.size ≤ 9223372036854775807) (w : World) : Calls Tryz.prog 43 #[.string s, .func (.func 44) #[] #[]] w fun e w' => e = .returned (.bool (allB isSign s)) ∧ w = w' :=
  all_any _ _ (enters_of Tryz.func44 (by kernel_rfl) rfl) sign_any s hs w

def nameB (s : ByteArray) : Bool := decide (1 ≤ s.size) && (decide (s.size ≤ 16) && allB isSign s)

set_option maxHeartbeats 1000000 in
theorem Name_any (s : ByteArray) (hs : s.size ≤ 9223372036854775807) (w : World) :
    Calls Tryz.prog 23 #[.string s] w fun e w' => e = .returned (.bool (nameB s)) ∧ w = w' := by
  by_cases h1 : 1 ≤ s.size
  · by_cases h2 : s.size ≤ 16
    · go_enter Tryz.func23, Tryz.ntmps23
      go_wp2_with fail
      refine (all_sign _ hs _).mono ?_
      rintro e w' ⟨rfl, rfl⟩
      go_wp2_with fail
      go_ret
      exact ⟨by simp [nameB, h1, h2], rfl⟩
    · go_enter Tryz.func23, Tryz.ntmps23
      go_wp2_with fail
      go_ret
      exact ⟨by simp [nameB, h2], rfl⟩
  · go_enter Tryz.func23, Tryz.ntmps23
    go_wp2_with fail
    go_ret
    exact ⟨by simp [nameB, h1], rfl⟩

end Go.Proofs.YtcmjgkmnbenniaaGreatDoor.Ext
