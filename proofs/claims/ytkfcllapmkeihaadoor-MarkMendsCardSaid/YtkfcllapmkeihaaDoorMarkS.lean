/- The walks of mark.Sum, number and Right: what each returns, as plain functions of the bytes. -/
import Derived.Test.YtkfcllapmkeihaaDoorMarkW
namespace Go.Proofs.YtkfcllapmkeihaaDoor.Ext
open Go.RowKit

def headB (a : ByteArray) : Bool := decide (10 ≤ a.size) && (allB isLow (a.extract 0 4) && allB isDig (a.extract 4 10))
def sumK (a : ByteArray) : Nat → Int
  | 0 => 0
  | k + 1 => sumK a k + valI (sgn a k) * ((k : Int) + 1)
def sumB (a : ByteArray) : Int := if headB a = true then sumK a 10 % 97 else -1
theorem mul_range (v : Int) (k : Nat) (h : 0 ≤ v ∧ v ≤ 26) (hk : k < 10) : 0 ≤ v * ((k : Int) + 1) ∧ v * ((k : Int) + 1) ≤ 260 := by
  have h1 : 0 ≤ v * ((k : Int) + 1) := Int.mul_nonneg h.1 (by omega)
  have h2 : v * ((k : Int) + 1) ≤ 26 * ((k : Int) + 1) := Int.mul_le_mul_of_nonneg_right h.2 (by omega)
  omega
theorem sumK_range (a : ByteArray) (k : Nat) (hk : k ≤ 10) : 0 ≤ sumK a k ∧ sumK a k ≤ 260 * k := by
  induction k with
  | zero => simp [sumK]
  | succ k ih =>
    have h1 := ih (by omega)
    have h2 := mul_range (valI (sgn a k)) k (valI_range _) (by omega)
    simp only [sumK]
    omega
theorem extract_list (a : ByteArray) (i j : Nat) : (a.extract i j).data.toList = (a.data.toList.take j).drop i := by
  simp [ByteArray.data_extract, List.drop_take]
theorem all_at {p : UInt8 → Bool} {a : ByteArray} {i j k : Nat} (h : allB p (a.extract i j) = true) (h0 : i ≤ k) (h1 : k < j) (h2 : k < a.size) : p (sgn a k) = true := by
  unfold allB at h
  rw [extract_list, List.all_eq_true] at h
  have h' : k < a.data.toList.length := by simpa using h2
  have e : sgn a k = a.data.toList[k] := by unfold sgn; rw [List.getD_eq_getElem?_getD, List.getElem?_eq_getElem h']; rfl
  rw [e]
  refine h _ ?_
  rw [List.mem_iff_getElem]
  refine ⟨k - i, by simp; omega, ?_⟩
  rw [List.getElem_drop, List.getElem_take]
  congr 1
  omega
theorem head_at {a : ByteArray} (h : headB a = true) {k : Nat} (hk : k < 10) : isLow (sgn a k) = true ∨ isDig (sgn a k) = true := by
  unfold headB at h
  simp only [Bool.and_eq_true, decide_eq_true_eq] at h
  by_cases h4 : k < 4
  · exact .inl (all_at h.2.1 (Nat.zero_le _) h4 (by omega))
  · exact .inr (all_at h.2.2 (by omega) hk (by omega))

set_option maxHeartbeats 2000000 in
theorem Sum_any (s : ByteArray) (hs : s.size ≤ 9223372036854775807) (w : World) :
    Calls Tryd.prog 20 #[.string s] w fun e w' => e = .returned (.int .i64 (sumB s)) ∧ w = w' := by
  by_cases h10 : 10 ≤ s.size
  · have c1 := fun w => all_lower (s.extract 0 4) (by simp; omega) w
    cases h1 : allB isLow (s.extract 0 4)
    · have hv : Hid (sumB s = -1) := by show sumB s = -1; simp [sumB, headB, h1]
      rw [h1] at c1
      go_enter Tryd.func20, Tryd.ntmps20
      go_wp2_with fail
      refine (c1 _).mono ?_
      rintro e w' ⟨rfl, rfl⟩
      go_wp2_with fail
      go_ret
      exact ⟨by rw [hv.out]; rfl, rfl⟩
    · rw [h1] at c1
      have c2 := fun w => all_digit (s.extract 4 10) (by simp; omega) w
      cases h2 : allB isDig (s.extract 4 10)
      · have hv : Hid (sumB s = -1) := by show sumB s = -1; simp [sumB, headB, h2]
        rw [h2] at c2
        go_enter Tryd.func20, Tryd.ntmps20
        go_wp2_with fail
        refine (c1 _).mono ?_
        rintro e w' ⟨rfl, rfl⟩
        go_wp2_with fail
        refine (c2 _).mono ?_
        rintro e w' ⟨rfl, rfl⟩
        go_wp2_with fail
        go_ret
        exact ⟨by rw [hv.out]; rfl, rfl⟩
      · rw [h2] at c2
        have hh : Hid (headB s = true) := by show headB s = true; simp [headB, h10, h1, h2]
        have hv : Hid (sumB s = sumK s 10 % 97) := by show sumB s = _; simp [sumB, hh.out]
        clear h1 h2
        go_enter Tryd.func20, Tryd.ntmps20
        go_wp2_with fail
        refine (c1 _).mono ?_
        rintro e w' ⟨rfl, rfl⟩
        go_wp2_with fail
        refine (c2 _).mono ?_
        rintro e w' ⟨rfl, rfl⟩
        go_wp2_with fail
        go_loop [3, 4, 20] (fun t _ c => ∃ k : Nat, k ≤ 10 ∧ c = .int .i64 k ∧ t = .int .i64 (sumK s k)) (fun _ _ c => 10 - (intOf c).toNat)
        case atStart => exact ⟨0, by omega, rfl, rfl⟩
        case round =>
          obtain ⟨k, hk, rfl, rfl⟩ := hrel
          have hr := sumK_range s k hk
          obtain ⟨hr1, hr2⟩ := hr
          by_cases hlt : k < 10
          · have hks : k < s.size := by omega
            have hm := mul_range (valI (sgn s k)) k (valI_range _) hlt
            obtain ⟨hm1, hm2⟩ := hm
            have hc := fun w => value_any (sgn s k) (head_at hh.out hlt) w
            have hat := Lib.hid (sgn_at s k hks)
            have hsk : Hid (sumK s (k + 1) = sumK s k + valI (sgn s k) * ((k : Int) + 1)) := rfl
            generalize hvg : valI (sgn s k) = v at *
            clear hvg
            go_wp2_with fail
            rw [hat.out]
            refine (hc _).mono ?_
            rintro e w' ⟨rfl, rfl⟩
            go_wp2_with fail
            go_round
            case measure => simp [intOf]; omega
            case rel => exact ⟨k + 1, by omega, by go_num, by rw [hsk.out]⟩
          · have : k = 10 := by omega
            subst this
            go_wp2_with fail
            go_ret
            exact ⟨by rw [hv.out]; try rfl, rfl⟩
  · have hv : Hid (sumB s = -1) := by show sumB s = -1; simp [sumB, headB, h10]
    go_enter Tryd.func20, Tryd.ntmps20
    go_wp2_with fail
    go_ret
    exact ⟨by rw [hv.out]; rfl, rfl⟩
end Go.Proofs.YtkfcllapmkeihaaDoor.Ext
