/- The walks of mark.number, Right, padded and Make: what each returns, as plain functions. Make leans on the library's table of powers of ten ('TB'). -/
import Derived.Test.YtkfcllapmkeihaaDoorMarkS
namespace Go.Proofs.YtkfcllapmkeihaaDoor.Ext
open Go.RowKit

/-- The table of powers of ten lies in memory, here and in every later world. -/
def TB (w : World) : Prop := ∀ W, Below w.heap.size w W → Lib.TabIs Tryd.prog W "internal/strconv.uint64pow10" .u64 Lib.pow10Tab
theorem TB.below {w w' : World} (h : TB w) (hb : Below w.heap.size w w') : TB w' := fun W hW => h W (hb.trans (hW.mono hb.size))
theorem TB.here {w : World} (h : TB w) : Lib.TabIs Tryd.prog w "internal/strconv.uint64pow10" .u64 Lib.pow10Tab := h w (Below.refl _ _)

def numK (a : ByteArray) : Nat → Int
  | 0 => 0
  | k + 1 => numK a k * 10 + valI (sgn a k)
theorem all_sgn {p : UInt8 → Bool} {a : ByteArray} (h : allB p a = true) {k : Nat} (hk : k < a.size) : p (sgn a k) = true := by
  unfold allB at h
  rw [List.all_eq_true] at h
  have h' : k < a.data.toList.length := by simpa using hk
  have e : sgn a k = a.data.toList[k] := by unfold sgn; rw [List.getD_eq_getElem?_getD, List.getElem?_eq_getElem h']; rfl
  rw [e]
  exact h _ (List.getElem_mem _)
theorem numK_range (a : ByteArray) (h : allB isDig a = true) (k : Nat) (hk : k ≤ a.size) : 0 ≤ numK a k ∧ numK a k + 1 ≤ ((10 ^ k : Nat) : Int) := by
  induction k with
  | zero => simp [numK]
  | succ k ih =>
    have h1 := ih (by omega)
    have h2 := valI_dig (sgn a k) (all_sgn h (by omega))
    have h3 : (10 ^ (k + 1) : Nat) = 10 ^ k * 10 := Nat.pow_succ ..
    simp only [numK]
    omega
theorem numK_small (a : ByteArray) (h : allB isDig a = true) (hs : a.size ≤ 6) (k : Nat) (hk : k ≤ a.size) : 0 ≤ numK a k ∧ numK a k ≤ 999999 := by
  have h1 := numK_range a h k hk
  have h2 : 10 ^ k ≤ 10 ^ 6 := Nat.pow_le_pow_right (by omega) (by omega)
  omega

set_option maxHeartbeats 1000000 in
theorem number_any (s : ByteArray) (hs : s.size ≤ 6) (hd : allB isDig s = true) (w : World) :
    Calls Tryd.prog 31 #[.string s] w fun e w' => e = .returned (.int .i64 (numK s s.size)) ∧ w = w' := by
  have HD := Lib.hid hd
  clear hd
  go_enter Tryd.func31, Tryd.ntmps31
  go_wp2_with fail
  go_loop [3, 4, 7] (fun t _ c => ∃ k : Nat, k ≤ s.size ∧ c = .int .i64 k ∧ t = .int .i64 (numK s k)) (fun _ _ c => s.size - (intOf c).toNat)
  case atStart => exact ⟨0, by omega, rfl, rfl⟩
  case round =>
    obtain ⟨k, hk, rfl, rfl⟩ := hrel
    have hr := numK_small s HD.out hs k hk
    obtain ⟨hr1, hr2⟩ := hr
    by_cases hlt : k < s.size
    · have hm := valI_range (sgn s k)
      obtain ⟨hm1, hm2⟩ := hm
      have hc := fun w => value_any (sgn s k) (.inr (all_sgn HD.out hlt)) w
      have hat := Lib.hid (sgn_at s k hlt)
      have hsk : Hid (numK s (k + 1) = numK s k * 10 + valI (sgn s k)) := rfl
      generalize hvg : valI (sgn s k) = v at *
      clear hvg
      go_wp2_with fail
      rw [hat.out]
      refine (hc _).mono ?_
      rintro e w' ⟨rfl, rfl⟩
      go_wp2_with fail
      go_round
      case measure => simp [intOf]; omega
      case rel => exact ⟨k + 1, by omega, by go_num, by rw [hsk.out]⟩
    · have : k = s.size := by omega
      subst this
      go_wp2_with fail
      go_ret
      exact ⟨rfl, rfl⟩

def rightB (s : ByteArray) : Bool := decide (s.size = 12) && (allB isDig (s.extract 10 12) && decide (sumB s = numK (s.extract 10 12) 2))

set_option maxHeartbeats 2000000 in
theorem Right_any (s : ByteArray) (hs : s.size ≤ 9223372036854775807) (w : World) :
    Calls Tryd.prog 15 #[.string s] w fun e w' => e = .returned (.bool (rightB s)) ∧ ∃ n, w' = w.drewN n := by
  by_cases h12 : s.size = 12
  · have hz : Hid ((s.extract 10 12).size = 2) := by show (s.extract 10 12).size = 2; simp [h12]
    have c1 := fun w => all_digit (s.extract 10 12) (by rw [hz.out]; omega) w
    have hb : ((s.size : Int) == 12) = true := by simp [h12]
    have h12' := Lib.hid h12
    clear h12
    have hle : 10 ≤ s.size := by rw [h12'.out]; omega
    have hex : Hid (s.extract 10 s.size = s.extract 10 12) := by show _ = _; rw [h12'.out]
    cases h1 : allB isDig (s.extract 10 12)
    · rw [h1] at c1
      have hv : Hid (rightB s = false) := by show rightB s = false; simp [rightB, h1]
      go_enter Tryd.func15, Tryd.ntmps15
      go_wp2_with fail
      go_quiet ((go_at_call 26; rw [hex.out]; exact Calls.quiet_of_same ((c1 _).mono fun _ _ ⟨a, b⟩ => ⟨a, b.symm⟩)))
      go_wp2_with fail
      go_ret
      exact ⟨by rw [hv.out]; rfl, _, rfl⟩
    · rw [h1] at c1
      have c2 := fun w => Sum_any s hs w
      have c3 := fun w => number_any (s.extract 10 12) (by rw [hz.out]; omega) h1 w
      rw [hz.out] at c3
      have hv : Hid (rightB s = (sumB s == numK (s.extract 10 12) 2)) := by
        show _ = _
        simp [rightB, h1, h12'.out]
        by_cases e : sumB s = numK (s.extract 10 12) 2 <;> simp [e]
      go_enter Tryd.func15, Tryd.ntmps15
      go_wp2_with fail
      go_quiet (first | (go_at_call 26; rw [hex.out]; exact Calls.quiet_of_same ((c1 _).mono fun _ _ ⟨a, b⟩ => ⟨a, b.symm⟩)) | (go_at_call 20; exact Calls.quiet_of_same ((c2 _).mono fun _ _ ⟨a, b⟩ => ⟨a, b.symm⟩)) | (go_at_call 31; rw [hex.out]; exact Calls.quiet_of_same ((c3 _).mono fun _ _ ⟨a, b⟩ => ⟨a, b.symm⟩)))
      go_wp2_with fail
      go_ret
      exact ⟨by rw [hv.out]; rfl, _, rfl⟩
  · have hb : ((s.size : Int) == 12) = false := by rw [beq_eq_false_iff_ne]; omega
    have hv : Hid (rightB s = false) := by show rightB s = false; simp [rightB, h12]
    go_enter Tryd.func15, Tryd.ntmps15
    go_wp2_with fail
    go_quiet (fail)
    go_wp2_with fail
    go_ret
    exact ⟨by rw [hv.out]; rfl, _, rfl⟩
end Go.Proofs.YtkfcllapmkeihaaDoor.Ext
