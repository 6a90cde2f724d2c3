/- The document's functions that the Draft laws use, as plain functions. -/
import Derived.Test.YtcmjgkmnbenniaaGreatDoorXx10
import Derived.Test.YtcmjgkmnbenniaaGreatDoorXx11
import Derived.Test.YtcmjgkmnbenniaaGreatDoorXx12
import Derived.Test.YtcmjgkmnbenniaaGreatDoorAwake
import Derived.Sort.Walk0
namespace Go.Proofs.YtcmjgkmnbenniaaGreatDoor.Ext
open Go.RowKit Go.Proofs.YtcmjgkmnbenniaaGreatDoor.X Go.Proofs.YtcmjgkmnbenniaaGreatDoorW.PrintWords
noncomputable def dec (p : Prop) : Bool := @decide p (Classical.propDecidable p)
theorem dec_iff (p : Prop) : dec p = true ↔ p := by unfold dec; simp
theorem dec_true {p : Prop} (h : p) : dec p = true := (dec_iff p).2 h
theorem dec_false {p : Prop} (h : ¬ p) : dec p = false := by rw [Bool.eq_false_iff]; exact fun g => h ((dec_iff p).1 g)
theorem dec_congr {p q : Prop} (h : p ↔ q) : dec p = dec q := by rw [Bool.eq_iff_iff, dec_iff, dec_iff]; exact h
def sgn (s : ByteArray) (k : Nat) : UInt8 := s.data.toList.getD k 0
theorem bt_sgn (s : ByteArray) (k : Nat) : bt s (k : Int) = ((sgn s k).toNat : Int) := by
  unfold bt sgn
  simp only [Int.toNat_natCast]
  split
  · rename_i h
    have h' : k < s.data.toList.length := by simpa using h
    rw [List.getD_eq_getElem?_getD, List.getElem?_eq_getElem h']
    rfl
  · rename_i h
    have h' : ¬ k < s.data.toList.length := by simpa using h
    rw [List.getD_eq_getElem?_getD, List.getElem?_eq_none (by omega)]
    rfl
theorem allB_iff (p : UInt8 → Bool) (s : ByteArray) : allB p s = true ↔ ∀ k, k < s.size → p (sgn s k) = true := by
  unfold allB sgn
  rw [List.all_eq_true]
  constructor
  · intro h k hk
    have h' : k < s.data.toList.length := by simpa using hk
    rw [List.getD_eq_getElem?_getD, List.getElem?_eq_getElem h']
    exact h _ (List.getElem_mem h')
  · intro h x hx
    obtain ⟨k, hk, rfl⟩ := List.getElem_of_mem hx
    have := h k (by simpa using hk)
    rw [List.getD_eq_getElem?_getD, List.getElem?_eq_getElem hk] at this
    exact this
theorem nameB_iff (s : ByteArray) : nameB s = true ↔ 1 ≤ s.size ∧ s.size ≤ 16 ∧ ∀ k, k < s.size → isSign (sgn s k) = true := by
  unfold nameB
  simp only [Bool.and_eq_true, decide_eq_true_eq, allB_iff]
theorem name_l (s : ByteArray) (hs : s.size ≤ 9223372036854775806) (d : Nat) : ∀ (k i : Nat), i + d = s.size → d < k →
    supercargoref06_Name.l0 k s (i : Int) = some (decide (1 ≤ s.size) && decide (s.size ≤ 16) && dec (∀ j, i ≤ j → j < s.size → isSign (sgn s j) = true)) := by
  induction d with
  | zero =>
    intro k i hi hk
    obtain ⟨k, rfl⟩ : ∃ m, k = m + 1 := ⟨k - 1, by omega⟩
    simp only [supercargoref06_Name.l0]
    rw [if_neg (by omega)]
    rw [dec_true (p := ∀ j, i ≤ j → j < s.size → isSign (sgn s j) = true) (fun j h1 h2 => by omega), Bool.and_true]
    by_cases h1 : 1 ≤ s.size
    · rw [if_pos (by omega)]
      congr 1
      simp only [h1, decide_true, Bool.true_and]
      rw [decide_eq_decide]
      omega
    · rw [if_neg (by omega)]
      simp [h1]
  | succ d ih =>
    intro k i hi hk
    obtain ⟨k, rfl⟩ : ∃ m, k = m + 1 := ⟨k - 1, by omega⟩
    have hw : wrap64 ((i : Int) + 1) = ((i + 1 : Nat) : Int) := by rw [w64 (by omega) (by omega)]; omega
    have hrec := ih k (i + 1) (by omega) (by omega)
    simp only [supercargoref06_Name.l0]
    rw [if_pos (by omega), if_pos (by omega), hw, hrec, bt_sgn]
    have yes : isSign (sgn s i) = true → some (decide (1 ≤ s.size) && decide (s.size ≤ 16) && dec (∀ j, i + 1 ≤ j → j < s.size → isSign (sgn s j) = true)) = some (decide (1 ≤ s.size) && decide (s.size ≤ 16) && dec (∀ j, i ≤ j → j < s.size → isSign (sgn s j) = true)) := by
      intro h
      congr 2
      apply dec_congr
      exact ⟨fun g j h1 h2 => if e : j = i then e ▸ h else g j (by omega) h2, fun g j h1 h2 => g j (by omega) h2⟩
    have no : isSign (sgn s i) = false → (some false : Option Bool) = some (decide (1 ≤ s.size) && decide (s.size ≤ 16) && dec (∀ j, i ≤ j → j < s.size → isSign (sgn s j) = true)) := by
      intro h
      rw [dec_false (p := ∀ j, i ≤ j → j < s.size → isSign (sgn s j) = true), Bool.and_false]
      intro g
      have := g i (Nat.le_refl _) (by omega)
      rw [h] at this
      cases this
    have hsg : isSign (sgn s i) = (decide (97 ≤ (sgn s i).toNat ∧ (sgn s i).toNat ≤ 122) || (decide (48 ≤ (sgn s i).toNat ∧ (sgn s i).toNat ≤ 57) || decide ((sgn s i).toNat = 45))) := by
      unfold isSign isLow isDig
      rw [Bool.eq_iff_iff]
      simp only [Bool.or_eq_true, Bool.and_eq_true, decide_eq_true_eq, beq_iff_eq]
      omega
    generalize (sgn s i).toNat = c at hsg ⊢
    by_cases h1 : 97 ≤ c ∧ c ≤ 122
    · rw [if_pos (by omega), if_pos (by omega)]
      exact yes (by rw [hsg]; simp [h1])
    · by_cases h2 : 48 ≤ c ∧ c ≤ 57
      · by_cases h3 : 97 ≤ c
        · omega
        · rw [if_neg (by omega), if_pos (by omega), if_pos (by omega)]
          exact yes (by rw [hsg]; simp [h2])
      · by_cases h4 : c = 45
        · rw [if_neg (by omega), if_neg (by omega), if_pos (by omega)]
          exact yes (by rw [hsg]; simp [h4])
        · have hn := no (by rw [hsg]; simp only [Bool.or_eq_false_iff, decide_eq_false_iff_not]; exact ⟨h1, h2, h4⟩)
          by_cases h5 : 97 ≤ c
          · rw [if_pos (by omega), if_neg (by omega), if_pos (by omega), if_neg (by omega), if_neg (by omega)]
            exact hn
          · rw [if_neg (by omega)]
            by_cases h6 : 48 ≤ c
            · rw [if_pos (by omega), if_neg (by omega), if_neg (by omega)]
              exact hn
            · rw [if_neg (by omega), if_neg (by omega)]
              exact hn
theorem name_f (s : ByteArray) (hs : s.size ≤ 9223372036854775806) (k : Nat) (hk : s.size < k) : supercargoref06_Name.f k s = some (nameB s) := by
  unfold supercargoref06_Name.f
  have h := name_l s hs s.size k 0 (by omega) hk
  rw [show ((0 : Nat) : Int) = 0 from rfl] at h
  rw [h]
  congr 1
  rw [Bool.eq_iff_iff, nameB_iff]
  simp only [Bool.and_eq_true, decide_eq_true_eq, dec_iff]
  exact ⟨fun ⟨⟨a, b⟩, c⟩ => ⟨a, b, fun j hj => c j (Nat.zero_le _) hj⟩, fun ⟨a, b, c⟩ => ⟨⟨a, b⟩, fun j _ hj => c j hj⟩⟩
theorem money_l (s : ByteArray) (h3 : s.size = 3) (n : Int) (d : Nat) : ∀ (k i : Nat), i + d = 3 → d < k →
    supercargoref38_Money.l0 k (i : Int) s n = some (dec (∀ j, i ≤ j → j < 3 → isCap (sgn s j) = true)) := by
  induction d with
  | zero =>
    intro k i hi hk
    obtain ⟨k, rfl⟩ : ∃ m, k = m + 1 := ⟨k - 1, by omega⟩
    simp only [supercargoref38_Money.l0]
    rw [if_neg (by omega), dec_true (fun j h1 h2 => by omega)]
  | succ d ih =>
    intro k i hi hk
    obtain ⟨k, rfl⟩ : ∃ m, k = m + 1 := ⟨k - 1, by omega⟩
    have hw : wrap64 ((i : Int) + 1) = ((i + 1 : Nat) : Int) := by rw [w64 (by omega) (by omega)]; omega
    simp only [supercargoref38_Money.l0]
    rw [if_pos (by omega), if_pos (by omega), if_pos (by omega), hw, ih k (i + 1) (by omega) (by omega), bt_sgn]
    have hc : isCap (sgn s i) = true ↔ 65 ≤ (sgn s i).toNat ∧ (sgn s i).toNat ≤ 90 := by unfold isCap; simp
    by_cases h1 : 65 ≤ (sgn s i).toNat ∧ (sgn s i).toNat ≤ 90
    · rw [if_neg (by omega), if_neg (by omega)]
      congr 1
      apply dec_congr
      exact ⟨fun g j q1 q2 => if e : j = i then e ▸ hc.2 h1 else g j (by omega) q2, fun g j q1 q2 => g j (by omega) q2⟩
    · have hn : (some false : Option Bool) = some (dec (∀ j, i ≤ j → j < 3 → isCap (sgn s j) = true)) := by
        rw [dec_false]
        exact fun g => h1 (hc.1 (g i (Nat.le_refl _) (by omega)))
      by_cases h2 : 65 ≤ (sgn s i).toNat
      · rw [if_neg (by omega), if_pos (by omega)]
        exact hn
      · rw [if_pos (by omega)]
        exact hn
theorem money_f (s : ByteArray) (n : Int) (k : Nat) (hk : 6 ≤ k) : supercargoref38_Money.f k s n = some (curB s && (decide (1 ≤ n) && decide (n ≤ 1099511627776))) := by
  obtain ⟨k, rfl⟩ : ∃ m, k = m + 1 := ⟨k - 1, by omega⟩
  unfold supercargoref38_Money.f
  by_cases h3 : s.size = 3
  · rw [if_pos (by omega)]
    have hcur : curB s = dec (∀ j, 0 ≤ j → j < 3 → isCap (sgn s j) = true) := by
      rw [Bool.eq_iff_iff, dec_iff]
      unfold curB
      rw [Bool.and_eq_true, decide_eq_true_eq, allB_iff, h3]
      exact ⟨fun g j _ q => g.2 j q, fun g => ⟨rfl, fun j q => g j (Nat.zero_le _) q⟩⟩
    by_cases h1 : n < 1
    · rw [if_pos h1]
      simp only [supercargoref38_Money.j0]
      rw [if_pos trivial, decide_eq_false (by omega : ¬ 1 ≤ n)]
      simp
    · rw [if_neg h1]
      simp only [supercargoref38_Money.j0]
      by_cases h2 : n > 1099511627776
      · rw [if_pos (by simpa using h2), decide_eq_false (by omega : ¬ n ≤ 1099511627776)]
        simp
      · rw [if_neg (by simpa using h2), show (0 : Int) = ((0 : Nat) : Int) from rfl, money_l s h3 n 3 k 0 (by omega) (by omega), hcur, decide_eq_true (by omega : 1 ≤ n), decide_eq_true (by omega : n ≤ 1099511627776)]
        simp
  · rw [if_neg (by omega)]
    simp only [supercargoref38_Money.j0]
    rw [if_pos trivial]
    simp [curB, h3]
def termB (d : Dr) : Bool := if d.kind = 0 then d.days == 0 else if d.kind = 1 then decide (1 ≤ d.days) && decide (d.days ≤ 1000) else if d.kind = 2 then decide (1 ≤ d.days) && decide (d.days ≤ 1000) else false
/-- May a draft be? -/
def mayB (d : Dr) : Bool := nameB d.num && (nameB d.drawer && (nameB d.drawee && (nameB d.payee && (!(d.drawer.toList == d.drawee.toList) && (!(d.payee.toList == d.drawee.toList) && (curB d.cur && (decide (1 ≤ d.amt) && (decide (d.amt ≤ 1099511627776) && (decide (0 ≤ d.frm) && (decide (d.frm ≤ 1048576) && termB d))))))))))
structure Short (d : Dr) : Prop where
  h1 : d.num.size ≤ 100
  h2 : d.drawer.size ≤ 100
  h3 : d.drawee.size ≤ 100
  h4 : d.payee.size ≤ 100
theorem may_tail (d : Dr) (k : Nat) (hk : 10 ≤ k) : supercargoref38_May.j0 k false d.num d.drawer d.drawee d.payee d.cur d.amt d.kind d.days d.frm = some (curB d.cur && (decide (1 ≤ d.amt) && (decide (d.amt ≤ 1099511627776) && (decide (0 ≤ d.frm) && (decide (d.frm ≤ 1048576) && termB d))))) := by
  obtain ⟨k, rfl⟩ : ∃ m, k = m + 2 := ⟨k - 2, by omega⟩
  have hterm : ∀ k, supercargoref38_May.j1 (k + 1) false d.num d.drawer d.drawee d.payee d.cur d.amt d.kind d.days d.frm = some (termB d) := fun k => by
    simp only [supercargoref38_May.j1]
    rw [if_neg (by simp)]
    unfold termB
    split
    · rfl
    · split
      · by_cases h : d.days ≥ 1
        · rw [if_pos h, decide_eq_true (by omega : 1 ≤ d.days)]; rfl
        · rw [if_neg h, decide_eq_false (by omega : ¬ 1 ≤ d.days)]; rfl
      · split
        · by_cases h : d.days ≥ 1
          · rw [if_pos h, decide_eq_true (by omega : 1 ≤ d.days)]; rfl
          · rw [if_neg h, decide_eq_false (by omega : ¬ 1 ≤ d.days)]; rfl
        · rfl
  have htrue : ∀ k, supercargoref38_May.j1 (k + 1) true d.num d.drawer d.drawee d.payee d.cur d.amt d.kind d.days d.frm = some false := fun k => by simp [supercargoref38_May.j1]
  show supercargoref38_May.j0 ((k + 1) + 1) false d.num d.drawer d.drawee d.payee d.cur d.amt d.kind d.days d.frm = _
  rw [supercargoref38_May.j0, if_neg (by simp), money_f _ _ _ (by omega)]
  simp only [Option.bind_some]
  cases hc : curB d.cur
  · simp [htrue]
  · by_cases h1 : 1 ≤ d.amt
    · by_cases h2 : d.amt ≤ 1099511627776
      · simp only [h1, h2, decide_true, Bool.and_self, if_pos, Bool.true_and]
        by_cases h3 : d.frm < 0
        · rw [if_pos h3, htrue, decide_eq_false (by omega : ¬ 0 ≤ d.frm)]; rfl
        · rw [if_neg h3]
          by_cases h4 : d.frm > 1048576
          · rw [decide_eq_true h4, htrue, decide_eq_false (by omega : ¬ d.frm ≤ 1048576)]; simp
          · rw [decide_eq_false h4, hterm, decide_eq_true (by omega : 0 ≤ d.frm), decide_eq_true (by omega : d.frm ≤ 1048576)]; rfl
      · simp [h2, htrue]
    · simp [h1, htrue]
theorem may38_f (d : Dr) (hs : Short d) (k : Nat) (hk : 110 ≤ k) : supercargoref38_May.f k d.num d.drawer d.drawee d.payee d.cur d.amt d.kind d.days d.frm = some (mayB d) := by
  have htrue : supercargoref38_May.j0 k true d.num d.drawer d.drawee d.payee d.cur d.amt d.kind d.days d.frm = some false := by
    obtain ⟨k, rfl⟩ : ∃ m, k = m + 1 := ⟨k - 1, by omega⟩
    simp [supercargoref38_May.j0]
  unfold supercargoref38_May.f mayB
  rw [name_f _ (by have := hs.h1; omega) _ (by have := hs.h1; omega), name_f _ (by have := hs.h2; omega) _ (by have := hs.h2; omega), name_f _ (by have := hs.h3; omega) _ (by have := hs.h3; omega), name_f _ (by have := hs.h4; omega) _ (by have := hs.h4; omega)]
  simp only [Option.bind_some, htrue]
  cases nameB d.num
  · rfl
  cases nameB d.drawer
  · rfl
  cases nameB d.drawee
  · rfl
  cases nameB d.payee
  · rfl
  rw [if_pos rfl, if_pos rfl, if_pos rfl, if_pos rfl]
  by_cases e1 : d.drawer.toList = d.drawee.toList
  · rw [if_pos e1, beq_iff_eq.2 e1]; rfl
  · rw [if_neg e1, beq_eq_false_iff_ne.2 e1]
    by_cases e2 : d.payee.toList = d.drawee.toList
    · rw [beq_iff_eq.2 e2, htrue]; rfl
    · rw [beq_eq_false_iff_ne.2 e2, may_tail d k (by omega)]; rfl
theorem mayd_tail (d : Dr) (k : Nat) (hk : 2 ≤ k) : draft_May.j0 k false d.num d.drawer d.drawee d.payee d.cur d.amt d.kind d.days d.frm = some (curB d.cur && (decide (1 ≤ d.amt) && (decide (d.amt ≤ 1099511627776) && (decide (0 ≤ d.frm) && (decide (d.frm ≤ 1048576) && termB d))))) := by
  obtain ⟨k, rfl⟩ : ∃ m, k = m + 2 := ⟨k - 2, by omega⟩
  have hterm : ∀ k, draft_May.j1 (k + 1) false d.num d.drawer d.drawee d.payee d.cur d.amt d.kind d.days d.frm = some (termB d) := fun k => by
    simp only [draft_May.j1]
    rw [if_neg (by simp)]
    unfold termB
    split
    · rfl
    · split
      · by_cases h : d.days ≥ 1
        · rw [if_pos h, decide_eq_true (by omega : 1 ≤ d.days)]; rfl
        · rw [if_neg h, decide_eq_false (by omega : ¬ 1 ≤ d.days)]; rfl
      · split
        · by_cases h : d.days ≥ 1
          · rw [if_pos h, decide_eq_true (by omega : 1 ≤ d.days)]; rfl
          · rw [if_neg h, decide_eq_false (by omega : ¬ 1 ≤ d.days)]; rfl
        · rfl
  have htrue : ∀ k, draft_May.j1 (k + 1) true d.num d.drawer d.drawee d.payee d.cur d.amt d.kind d.days d.frm = some false := fun k => by simp [draft_May.j1]
  show draft_May.j0 ((k + 1) + 1) false d.num d.drawer d.drawee d.payee d.cur d.amt d.kind d.days d.frm = _
  rw [draft_May.j0, if_neg (by simp)]
  unfold money_May.f money_currency.f money_within.f draft_isDay.f
  simp only [Option.bind_some]
  cases hc : curB d.cur
  · simp [htrue]
  · rw [if_pos rfl]
    by_cases h0 : d.amt ≥ -1099511627776
    · rw [if_pos h0]
      simp only [Option.bind_some]
      by_cases h2 : d.amt ≤ 1099511627776
      · rw [if_pos (decide_eq_true h2), decide_eq_true h2]
        by_cases h1 : 1 ≤ d.amt
        · rw [if_neg (by omega), decide_eq_true h1]
          by_cases h3 : d.frm ≥ 0
          · rw [if_pos h3, decide_eq_true (by omega : 0 ≤ d.frm)]
            simp only [Option.bind_some]
            by_cases h4 : d.frm ≤ 1048576
            · rw [decide_eq_true h4, Bool.not_true, hterm]; rfl
            · rw [decide_eq_false h4, Bool.not_false, htrue]; rfl
          · rw [if_neg h3, decide_eq_false (by omega : ¬ 0 ≤ d.frm)]
            simp only [Option.bind_some]
            rw [Bool.not_false, htrue]; rfl
        · rw [if_pos (by omega), decide_eq_false h1, htrue]; rfl
      · rw [if_neg (by simpa using h2), decide_eq_false h2, htrue]; simp
    · rw [if_neg h0]
      simp only [Option.bind_some]
      rw [if_neg (by simp), decide_eq_false (by omega : ¬ 1 ≤ d.amt), htrue]; simp
theorem mayd_f (d : Dr) (hs : Short d) (k : Nat) (hk : 2 ≤ k) : draft_May.f k d.num d.drawer d.drawee d.payee d.cur d.amt d.kind d.days d.frm = some (mayB d) := by
  have htrue : draft_May.j0 k true d.num d.drawer d.drawee d.payee d.cur d.amt d.kind d.days d.frm = some false := by
    obtain ⟨k, rfl⟩ : ∃ m, k = m + 1 := ⟨k - 1, by omega⟩
    simp [draft_May.j0]
  unfold draft_May.f mayB mark_Name.f
  rw [if_pos (by have := hs.h1; omega), if_pos (by have := hs.h2; omega), if_pos (by have := hs.h3; omega), if_pos (by have := hs.h4; omega)]
  simp only [Option.bind_some, htrue]
  cases nameB d.num
  · rfl
  cases nameB d.drawer
  · rfl
  cases nameB d.drawee
  · rfl
  cases nameB d.payee
  · rfl
  rw [if_pos rfl, if_pos rfl, if_pos rfl, if_pos rfl]
  by_cases e1 : d.drawer.toList = d.drawee.toList
  · rw [if_pos e1, beq_iff_eq.2 e1]; rfl
  · rw [if_neg e1, beq_eq_false_iff_ne.2 e1]
    by_cases e2 : d.payee.toList = d.drawee.toList
    · rw [beq_iff_eq.2 e2, htrue]; rfl
    · rw [beq_eq_false_iff_ne.2 e2, mayd_tail d k hk]; rfl
/-! ### a text put among rising ones -/
def putB (t : ByteArray) : List ByteArray → List ByteArray
  | [] => [t]
  | a :: r => if bl a < bl t then a :: putB t r else if bl a = bl t then a :: r else t :: a :: r
theorem putB_mem (t : ByteArray) (x : List UInt8) : ∀ l, x ∈ (putB t l).map bl ↔ x = bl t ∨ x ∈ l.map bl
  | [] => by simp [putB]
  | a :: r => by
    unfold putB
    split
    · rw [List.map_cons, List.mem_cons, putB_mem t x r, List.map_cons, List.mem_cons]
      constructor
      · rintro (h | h | h) <;> simp [h]
      · rintro (h | h | h) <;> simp [h]
    · split
      · rename_i h
        rw [List.map_cons, List.mem_cons, h]
        constructor
        · rintro (q | q) <;> simp [q]
        · rintro (q | q | q) <;> simp [q]
      · rw [List.map_cons, List.mem_cons]
theorem putB_sorted (t : ByteArray) : ∀ l : List ByteArray, (l.map bl).Pairwise (· < ·) → ((putB t l).map bl).Pairwise (· < ·)
  | [], _ => by simp [putB]
  | a :: r, h => by
    unfold putB
    rw [List.map_cons] at h
    obtain ⟨h1, h2⟩ := List.pairwise_cons.1 h
    split
    · rename_i c
      rw [List.map_cons]
      refine List.pairwise_cons.2 ⟨fun x hx => ?_, putB_sorted t r h2⟩
      rcases (putB_mem t x r).1 hx with rfl | hx
      · exact c
      · exact h1 x hx
    · split
      · rw [List.map_cons]; exact h
      · rename_i c1 c2
        have hlt : bl t < bl a := by
          rcases List.le_iff_lt_or_eq.1 (List.not_lt.1 c1) with q | q
          · exact q
          · exact absurd q.symm c2
        rw [List.map_cons, List.map_cons]
        refine List.pairwise_cons.2 ⟨fun x hx => ?_, h⟩
        rcases List.mem_cons.1 hx with rfl | hx
        · exact hlt
        · exact List.lt_trans hlt (h1 x hx)
theorem putB_length (t : ByteArray) : ∀ l, (putB t l).length ≤ l.length + 1
  | [] => by simp [putB]
  | a :: r => by
    unfold putB
    have := putB_length t r
    split
    · simp only [List.length_cons]; omega
    · split
      · simp only [List.length_cons]; omega
      · simp only [List.length_cons]; omega
end Go.Proofs.YtcmjgkmnbenniaaGreatDoor.Ext
