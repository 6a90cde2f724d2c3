/- Chapter 3's references answer as the session's plain functions: heads, sums, right marks, names. Plain laws: no program. -/
import Derived.Test.YtkfcllapmkeihaaDoorExt
import Derived.Test.YtkfcllapmkeihaaDoorXx1
import Derived.Test.YtkfcllapmkeihaaDoorXx3
import Derived.Test.YtkfcllapmkeihaaDoorXx4
namespace Go.Proofs.YtkfcllapmkeihaaDoor.Ref
open Go.RowKit Go.Proofs.YtkfcllapmkeihaaDoor.Ext Go.Proofs.YtkfcllapmkeihaaDoor.X Go.Proofs.YtkfcllapmkeihaaDoorW.PrintWords

noncomputable def dec (p : Prop) : Bool := @decide p (Classical.propDecidable p)
theorem dec_iff (p : Prop) : dec p = true ↔ p := by unfold dec; simp
theorem dec_true {p : Prop} (h : p) : dec p = true := (dec_iff p).2 h
theorem dec_false {p : Prop} (h : ¬ p) : dec p = false := by rw [Bool.eq_false_iff]; exact fun g => h ((dec_iff p).1 g)
theorem dec_congr {p q : Prop} (h : p ↔ q) : dec p = dec q := by rw [Bool.eq_iff_iff, dec_iff, dec_iff]; exact h

theorem w64 {x : Int} (h : -9223372036854775808 ≤ x) (h2 : x ≤ 9223372036854775807) : wrap64 x = x := by unfold wrap64; omega
theorem bt_sgn (s : ByteArray) (k : Nat) : bt s (k : Int) = ((sgn s k).toNat : Int) := by
  unfold bt sgn
  simp only [Int.toNat_natCast]
  split
  · rename_i h
    have h' : k < s.data.toList.length := by simpa using h
    rw [List.getD_eq_getElem?_getD, List.getElem?_eq_getElem h']
    rfl
  · rename_i h
    have h' : ¬ k < s.data.toList.length := by simpa using h
    rw [List.getD_eq_getElem?_getD, List.getElem?_eq_none (by omega)]
    rfl
theorem toNat_lt (c : UInt8) : c.toNat < 256 := c.toNat_lt

theorem letter_f (c : UInt8) : supercargoref03_letter.f (c.toNat : Int) = some (isLow c) := by
  unfold supercargoref03_letter.f isLow
  by_cases h : 97 ≤ c.toNat
  · rw [if_pos (by omega)]
    congr 1
    simp only [h, decide_true, Bool.true_and]
    rw [decide_eq_decide]
    omega
  · rw [if_neg (by omega)]
    simp [h]
theorem digit_f (c : UInt8) : supercargoref03_digit.f (c.toNat : Int) = some (isDig c) := by
  unfold supercargoref03_digit.f isDig
  by_cases h : 48 ≤ c.toNat
  · rw [if_pos (by omega)]
    congr 1
    simp only [h, decide_true, Bool.true_and]
    rw [decide_eq_decide]
    omega
  · rw [if_neg (by omega)]
    simp [h]

/-! ### heads -/
def hd (s : ByteArray) (j : Nat) : Bool := if j < 4 then isLow (sgn s j) else isDig (sgn s j)
theorem sgn_extract (s : ByteArray) (i j k : Nat) (h : i + k < j) (_ : j ≤ s.size) : sgn (s.extract i j) k = sgn s (i + k) := by
  unfold sgn
  rw [extract_list, List.getD_eq_getElem?_getD, List.getD_eq_getElem?_getD, List.getElem?_drop, List.getElem?_take, if_pos h]
theorem allB_iff (p : UInt8 → Bool) (s : ByteArray) : allB p s = true ↔ ∀ k, k < s.size → p (sgn s k) = true := by
  constructor
  · intro h k hk; exact all_sgn h hk
  · intro h
    unfold allB
    rw [List.all_eq_true]
    intro x hx
    obtain ⟨k, hk, rfl⟩ := List.mem_iff_getElem.1 hx
    have := h k (by simpa using hk)
    unfold sgn at this
    rw [List.getD_eq_getElem?_getD, List.getElem?_eq_getElem hk] at this
    exact this
theorem headB_iff (s : ByteArray) : headB s = true ↔ 10 ≤ s.size ∧ ∀ j, j < 10 → hd s j = true := by
  unfold headB
  simp only [Bool.and_eq_true, decide_eq_true_eq, allB_iff]
  constructor
  · rintro ⟨h1, h2, h3⟩
    refine ⟨h1, fun j hj => ?_⟩
    unfold hd
    split
    · rename_i h4
      have := h2 j (by simp; omega)
      rwa [sgn_extract s 0 4 j (by omega) (by omega), Nat.zero_add] at this
    · rename_i h4
      have := h3 (j - 4) (by simp; omega)
      rwa [sgn_extract s 4 10 (j - 4) (by omega) (by omega), show 4 + (j - 4) = j by omega] at this
  · rintro ⟨h1, h2⟩
    refine ⟨h1, fun k hk => ?_, fun k hk => ?_⟩
    · have hk' : k < 4 := by simp at hk; omega
      have := h2 k (by omega)
      rw [sgn_extract s 0 4 k (by omega) (by omega), Nat.zero_add]
      unfold hd at this
      rwa [if_pos hk'] at this
    · have hk' : k < 6 := by simp at hk; omega
      have := h2 (4 + k) (by omega)
      rw [sgn_extract s 4 10 k (by omega) (by omega)]
      unfold hd at this
      rwa [if_neg (by omega)] at this

theorem head_l (s : ByteArray) (hs : 10 ≤ s.size) (d : Nat) : ∀ (k i : Nat), i + d = 10 → d < k →
    supercargoref03_head.l0 k s (i : Int) = some (dec (∀ j, i ≤ j → j < 10 → hd s j = true)) := by
  induction d with
  | zero =>
    intro k i hi hk
    obtain ⟨k, rfl⟩ : ∃ m, k = m + 1 := ⟨k - 1, by omega⟩
    simp only [supercargoref03_head.l0]
    rw [if_neg (by omega)]
    rw [dec_true (fun j h1 h2 => by omega)]
  | succ d ih =>
    intro k i hi hk
    obtain ⟨k, rfl⟩ : ∃ m, k = m + 1 := ⟨k - 1, by omega⟩
    have hw : wrap64 ((i : Int) + 1) = ((i + 1 : Nat) : Int) := by rw [w64 (by omega) (by omega)]; omega
    have hrec := ih k (i + 1) (by omega) (by omega)
    have hstep : ∀ b : Bool, hd s i = b → (if b = true then some (dec (∀ j, i + 1 ≤ j → j < 10 → hd s j = true)) else some false) = some (dec (∀ j, i ≤ j → j < 10 → hd s j = true)) := by
      intro b hb
      cases b with
      | true =>
        rw [if_pos rfl]
        congr 1
        apply dec_congr
        exact ⟨fun h j h1 h2 => if e : j = i then e ▸ hb else h j (by omega) h2, fun h j h1 h2 => h j (by omega) h2⟩
      | false =>
        rw [if_neg (by simp)]
        congr 1
        symm
        exact dec_false fun h => by have := h i (Nat.le_refl _) (by omega); rw [hb] at this; cases this
    simp only [supercargoref03_head.l0]
    rw [if_pos (show (i : Int) < 10 by omega), hw, hrec]
    by_cases h4 : i < 4
    · rw [if_pos (by omega), if_pos (by omega), if_pos (by omega), bt_sgn, letter_f]
      simp only [Option.bind_some]
      rw [if_neg (show ¬ (i : Int) ≥ 4 by omega)]
      exact hstep _ (by unfold hd; rw [if_pos h4])
    · rw [if_neg (by omega), if_pos (by omega), if_pos (by omega), if_pos (by omega), bt_sgn, digit_f]
      simp only [Option.bind_some]
      exact hstep _ (by unfold hd; rw [if_neg h4])
theorem head_f (s : ByteArray) (k : Nat) (hk : 11 ≤ k) : supercargoref03_head.f k s = some (headB s) := by
  unfold supercargoref03_head.f
  by_cases hs : 10 ≤ s.size
  · rw [if_neg (by omega)]
    have h := head_l s hs 10 k 0 rfl (by omega)
    rw [show ((0 : Nat) : Int) = 0 from rfl] at h
    rw [h]
    congr 1
    rw [Bool.eq_iff_iff, dec_iff, headB_iff]
    exact ⟨fun h => ⟨hs, fun j hj => h j (by omega) hj⟩, fun h j _ hj => h.2 j hj⟩
  · rw [if_pos (by omega)]
    congr 1
    symm
    rw [Bool.eq_false_iff]
    intro h
    exact hs ((headB_iff s).1 h).1

/-! ### sums -/
theorem val_low {c : UInt8} (h : isLow c = true) : valI c = (c.toNat : Int) - 96 := by unfold valI; rw [if_pos h]
theorem low_not_dig {c : UInt8} (h : isDig c = true) : isLow c = false := by
  have : 48 ≤ c.toNat ∧ c.toNat ≤ 57 := by simpa [isDig] using h
  unfold isLow
  simp; omega
theorem val_dig {c : UInt8} (h : isDig c = true) : valI c = (c.toNat : Int) - 48 := by unfold valI; rw [if_neg (by rw [low_not_dig h]; simp), if_pos h]
theorem sum_l (s : ByteArray) (hh : headB s = true) (d : Nat) : ∀ (k i : Nat), i + d = 10 → d < k →
    supercargoref03_Sum.l0 k s (sumK s i) (i : Int) = some (sumK s 10 % 97) := by
  obtain ⟨hs, hj⟩ := (headB_iff s).1 hh
  induction d with
  | zero =>
    intro k i hi hk
    obtain ⟨k, rfl⟩ : ∃ m, k = m + 1 := ⟨k - 1, by omega⟩
    obtain rfl : i = 10 := by omega
    simp only [supercargoref03_Sum.l0]
    rw [if_neg (by omega)]
    have := sumK_range s 10 (Nat.le_refl _)
    rw [Int.tmod_eq_emod_of_nonneg this.1]
  | succ d ih =>
    intro k i hi hk
    obtain ⟨k, rfl⟩ : ∃ m, k = m + 1 := ⟨k - 1, by omega⟩
    have hw : wrap64 ((i : Int) + 1) = ((i + 1 : Nat) : Int) := by rw [w64 (by omega) (by omega)]; omega
    have hb := toNat_lt (sgn s i)
    have hv := valI_range (sgn s i)
    have hm := mul_range (valI (sgn s i)) i hv (by omega)
    have hr := sumK_range s i (by omega)
    have hrec := ih k (i + 1) (by omega) (by omega)
    have hji := hj i (by omega)
    simp only [supercargoref03_Sum.l0]
    rw [if_pos (by omega), if_pos (by omega), if_pos (by omega), bt_sgn, hw]
    rw [w64 (x := ((sgn s i).toNat : Int)) (by omega) (by omega)]
    have hfin : ∀ v : Int, v = valI (sgn s i) → wrap64 (sumK s i + wrap64 (wrap64 v * ((i + 1 : Nat) : Int))) = sumK s (i + 1) := by
      intro v hv'
      subst hv'
      rw [w64 (x := valI (sgn s i)) (by omega) (by omega), show ((i + 1 : Nat) : Int) = (i : Int) + 1 by omega, w64 (x := valI (sgn s i) * ((i : Int) + 1)) (by omega) (by omega), w64 (by omega) (by omega)]
      rfl
    by_cases h4 : i < 4
    · rw [if_pos (by omega), hfin _ (by rw [val_low (by unfold hd at hji; rwa [if_pos h4] at hji)])]
      exact hrec
    · rw [if_neg (by omega), hfin _ (by rw [val_dig (by unfold hd at hji; rwa [if_neg h4] at hji)])]
      exact hrec
theorem sum_f (s : ByteArray) (k : Nat) (hk : 11 ≤ k) : supercargoref03_Sum.f k s = some (sumB s) := by
  unfold supercargoref03_Sum.f
  rw [head_f s k hk]
  simp only [Option.bind_some]
  unfold sumB
  by_cases hh : headB s = true
  · rw [if_pos hh, if_pos hh]
    exact sum_l s hh 10 k 0 rfl (by omega)
  · rw [if_neg hh, if_neg hh]

/-! ### right marks -/
theorem num_two (s : ByteArray) (h : s.size = 12) : numK (s.extract 10 12) 2 = valI (sgn s 10) * 10 + valI (sgn s 11) := by
  simp only [numK]
  rw [sgn_extract s 10 12 0 (by omega) (by omega), sgn_extract s 10 12 1 (by omega) (by omega)]
  simp only [Nat.add_zero, Nat.reduceAdd]
  omega
theorem rightB_iff (s : ByteArray) : rightB s = true ↔ s.size = 12 ∧ isDig (sgn s 10) = true ∧ isDig (sgn s 11) = true ∧ sumB s = valI (sgn s 10) * 10 + valI (sgn s 11) := by
  unfold rightB
  simp only [Bool.and_eq_true, decide_eq_true_eq, allB_iff]
  constructor
  · rintro ⟨h1, h2, h3⟩
    have hz : (s.extract 10 12).size = 2 := by simp [h1]
    have e0 := h2 0 (by omega)
    have e1 := h2 1 (by omega)
    rw [sgn_extract s 10 12 0 (by omega) (by omega)] at e0
    rw [sgn_extract s 10 12 1 (by omega) (by omega)] at e1
    exact ⟨h1, e0, e1, by rw [h3, num_two s h1]⟩
  · rintro ⟨h1, h2, h3, h4⟩
    have hz : (s.extract 10 12).size = 2 := by simp [h1]
    refine ⟨h1, fun k hk => ?_, by rw [h4, num_two s h1]⟩
    rw [sgn_extract s 10 12 k (by omega) (by omega)]
    obtain rfl | rfl : k = 0 ∨ k = 1 := by omega
    · exact h2
    · exact h3
theorem right_head {s : ByteArray} (h : rightB s = true) : headB s = true := by
  obtain ⟨h1, h2, h3, h4⟩ := (rightB_iff s).1 h
  have a := valI_dig _ h2
  have b := valI_dig _ h3
  by_cases hh : headB s = true
  · exact hh
  · unfold sumB at h4
    rw [if_neg hh] at h4
    omega
theorem right_f (s : ByteArray) (k : Nat) (hk : 11 ≤ k) : supercargoref03_Right.f k s = some (rightB s) := by
  unfold supercargoref03_Right.f
  by_cases h12 : s.size = 12
  · rw [if_pos (by omega), head_f s k hk]
    simp only [Option.bind_some]
    have no : ∀ (_ : ¬ rightB s = true), some false = some (rightB s) := fun h => by rw [Bool.not_eq_true] at h; rw [h]
    by_cases hh : headB s = true
    · rw [if_pos hh, if_pos (by omega), show (10 : Int) = ((10 : Nat) : Int) from rfl, bt_sgn, digit_f]
      simp only [Option.bind_some]
      by_cases h10 : isDig (sgn s 10) = true
      · rw [if_pos h10, if_pos (by omega), show (11 : Int) = ((11 : Nat) : Int) from rfl, bt_sgn, digit_f]
        simp only [Option.bind_some]
        by_cases h11 : isDig (sgn s 11) = true
        · rw [if_pos h11, sum_f s k hk]
          simp only [Option.bind_some]
          have b0 := toNat_lt (sgn s 10)
          have b1 := toNat_lt (sgn s 11)
          have e0 := val_dig h10
          have e1 := val_dig h11
          rw [w64 (x := ((sgn s 10).toNat : Int)) (by omega) (by omega), w64 (x := ((sgn s 11).toNat : Int)) (by omega) (by omega), w64 (x := ((sgn s 10).toNat : Int) - 48) (by omega) (by omega),
            w64 (x := ((10 : Nat) : Int) * (((sgn s 10).toNat : Int) - 48)) (by omega) (by omega), w64 (x := ((10 : Nat) : Int) * (((sgn s 10).toNat : Int) - 48) + ((sgn s 11).toNat : Int)) (by omega) (by omega), w64 (by omega) (by omega)]
          congr 1
          rw [Bool.eq_iff_iff, beq_iff_eq, rightB_iff]
          constructor
          · intro h; exact ⟨h12, h10, h11, by rw [h, e0, e1]; omega⟩
          · intro h; rw [h.2.2.2, e0, e1]; omega
        · rw [if_neg h11]; exact no fun h => h11 ((rightB_iff s).1 h).2.2.1
      · rw [if_neg h10]; exact no fun h => h10 ((rightB_iff s).1 h).2.1
    · rw [if_neg hh]; exact no fun h => hh (right_head h)
  · rw [if_neg (by omega)]
    congr 1
    symm
    rw [Bool.eq_false_iff]
    exact fun h => h12 ((rightB_iff s).1 h).1

/-! ### names -/
theorem nameB_iff (s : ByteArray) : nameB s = true ↔ 1 ≤ s.size ∧ s.size ≤ 16 ∧ ∀ k, k < s.size → isSign (sgn s k) = true := by
  unfold nameB
  simp only [Bool.and_eq_true, decide_eq_true_eq, allB_iff]
theorem name_l (s : ByteArray) (hs : s.size ≤ 9223372036854775806) (d : Nat) : ∀ (k i : Nat), i + d = s.size → d < k →
    supercargoref03_Name.l0 k s (i : Int) = some (decide (1 ≤ s.size) && decide (s.size ≤ 16) && dec (∀ j, i ≤ j → j < s.size → isSign (sgn s j) = true)) := by
  induction d with
  | zero =>
    intro k i hi hk
    obtain ⟨k, rfl⟩ : ∃ m, k = m + 1 := ⟨k - 1, by omega⟩
    simp only [supercargoref03_Name.l0]
    rw [if_neg (by omega)]
    rw [dec_true (p := ∀ j, i ≤ j → j < s.size → isSign (sgn s j) = true) (fun j h1 h2 => by omega), Bool.and_true]
    by_cases h1 : 1 ≤ s.size
    · rw [if_pos (by omega)]
      congr 1
      simp only [h1, decide_true, Bool.true_and]
      rw [decide_eq_decide]
      omega
    · rw [if_neg (by omega)]
      simp [h1]
  | succ d ih =>
    intro k i hi hk
    obtain ⟨k, rfl⟩ : ∃ m, k = m + 1 := ⟨k - 1, by omega⟩
    have hw : wrap64 ((i : Int) + 1) = ((i + 1 : Nat) : Int) := by rw [w64 (by omega) (by omega)]; omega
    have hrec := ih k (i + 1) (by omega) (by omega)
    simp only [supercargoref03_Name.l0]
    rw [if_pos (by omega), if_pos (by omega), hw, hrec, bt_sgn, letter_f, digit_f]
    simp only [Option.bind_some]
    have yes : isSign (sgn s i) = true → some (decide (1 ≤ s.size) && decide (s.size ≤ 16) && dec (∀ j, i + 1 ≤ j → j < s.size → isSign (sgn s j) = true)) = some (decide (1 ≤ s.size) && decide (s.size ≤ 16) && dec (∀ j, i ≤ j → j < s.size → isSign (sgn s j) = true)) := by
      intro h
      congr 2
      apply dec_congr
      exact ⟨fun g j h1 h2 => if e : j = i then e ▸ h else g j (by omega) h2, fun g j h1 h2 => g j (by omega) h2⟩
    cases h1 : isLow (sgn s i) with
    | true => rw [if_pos rfl]; exact yes (by simp [isSign, h1])
    | false =>
      rw [if_neg (by simp)]
      cases h2 : isDig (sgn s i) with
      | true => rw [if_pos rfl]; exact yes (by simp [isSign, h2])
      | false =>
        rw [if_neg (by simp)]
        by_cases h3 : ((sgn s i).toNat : Int) = 45
        · rw [if_pos h3]; exact yes (by simp [isSign, h3])
        · rw [if_neg h3]
          congr 1
          rw [dec_false (p := ∀ j, i ≤ j → j < s.size → isSign (sgn s j) = true), Bool.and_false]
          intro h
          have := h i (Nat.le_refl _) (by omega)
          simp [isSign, h1, h2] at this
          exact h3 (by omega)
theorem name_f (s : ByteArray) (hs : s.size ≤ 9223372036854775806) (k : Nat) (hk : s.size < k) : supercargoref03_Name.f k s = some (nameB s) := by
  unfold supercargoref03_Name.f
  have h := name_l s hs s.size k 0 (by omega) hk
  rw [show ((0 : Nat) : Int) = 0 from rfl] at h
  rw [h]
  congr 1
  rw [Bool.eq_iff_iff, nameB_iff]
  simp only [Bool.and_eq_true, decide_eq_true_eq, dec_iff]
  exact ⟨fun ⟨⟨a, b⟩, c⟩ => ⟨a, b, fun j hj => c j (Nat.zero_le _) hj⟩, fun ⟨a, b, c⟩ => ⟨⟨a, b⟩, fun j _ hj => c j hj⟩⟩
end Go.Proofs.YtkfcllapmkeihaaDoor.Ref
