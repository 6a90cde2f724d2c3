/- DraftDue's pure statement. -/
import Derived.Test.YtcmjgkmnbenniaaGreatDoorRefZ
import Derived.Test.YtcmjgkmnbenniaaGreatDoorYx2
import Derived.Lib.Repeat
import Derived.Lib.ItoaLen
namespace Go.Proofs.YtcmjgkmnbenniaaGreatDoor.Pure
open Go.RowKit Go.Proofs.YtcmjgkmnbenniaaGreatDoor.Ext Go.Proofs.YtcmjgkmnbenniaaGreatDoorW.PrintWords
theorem str1 (d : Nat) (h : d < 10) : strOfNums [wrap64 (48 + (d : Int)) % 256] = ⟨#[UInt8.ofNat (48 + d)]⟩ := by
  rw [w64 (by omega) (by omega)]
  have e : ((48 + (d : Int)) % 256) = ((48 + d : Nat) : Int) := by omega
  rw [e]
  rfl
theorem digits_l (e : Nat) : ∀ (k u : Nat) (acc : ByteArray), u < 10 ^ (e + 1) → u < 9223372036854775807 → e < k → acc.size + e ≤ 1000 →
    X.supercargoref22_Digits.l0 k (u : Int) acc = some (⟨(Lib.decDigits u).toArray⟩ ++ acc) := by
  induction e with
  | zero =>
    intro k u acc hu hb hk ha
    obtain ⟨k, rfl⟩ : ∃ m, k = m + 1 := ⟨k - 1, by omega⟩
    have h10 : u < 10 := by simpa using hu
    simp only [X.supercargoref22_Digits.l0]
    rw [if_neg (by omega), Option.bind_some, str1 u h10, if_pos (by show 1 + acc.size ≤ _; omega), Lib.decDigits_one h10]
  | succ e ih =>
    intro k u acc hu hb hk ha
    obtain ⟨k, rfl⟩ : ∃ m, k = m + 1 := ⟨k - 1, by omega⟩
    simp only [X.supercargoref22_Digits.l0]
    by_cases h10 : u < 10
    · rw [if_neg (by omega), Option.bind_some, str1 u h10, if_pos (by show 1 + acc.size ≤ _; omega), Lib.decDigits_one h10]
    · have h1 : Int.tmod (u : Int) 10 = ((u % 10 : Nat) : Int) := by rw [Int.tmod_eq_emod_of_nonneg (by omega)]; omega
      have h2 : Int.tdiv (u : Int) 10 = ((u / 10 : Nat) : Int) := by rw [Int.tdiv_eq_ediv_of_nonneg (by omega)]; omega
      rw [if_pos (by omega), Option.bind_some, h1, h2, str1 _ (by omega), if_pos (by show 1 + acc.size ≤ _; omega), w64 (by omega) (by omega)]
      have hp : 10 ^ (e + 1 + 1) = 10 ^ (e + 1) * 10 := Nat.pow_succ ..
      rw [ih k (u / 10) _ (by omega) (by omega) (by omega) (by show (⟨#[UInt8.ofNat (48 + u % 10)]⟩ ++ acc : ByteArray).size + e ≤ 1000; rw [ByteArray.size_append]; show 1 + acc.size + e ≤ 1000; omega)]
      congr 1
      rw [← ByteArray.append_assoc]
      congr 1
      conv => rhs; rw [Lib.decDigits, dif_neg h10]
      apply ByteArray.ext
      simp
theorem digits_f (n : Int) (h0 : 0 ≤ n) (h1 : n ≤ 2000000) (k : Nat) (hk : 100 ≤ k) : X.supercargoref22_Digits.f k n = some ⟨(Lib.itoa n).toArray⟩ := by
  obtain ⟨u, rfl⟩ : ∃ u : Nat, n = u := ⟨n.toNat, by omega⟩
  unfold X.supercargoref22_Digits.f
  rw [digits_l 9 k u ⟨#[]⟩ (by omega) (by omega) (by omega) (by show 0 + 9 ≤ 1000; omega), Lib.itoa_nonneg]
  congr 1
  apply ByteArray.ext
  simp
/-! ### money's text -/
theorem digits_case (k : Nat) (hk : 2 ≤ k) (s : ByteArray) : ∃ z, X.money_digits.f k s = some z ∧ (z = 0 ∨ z = 2 ∨ z = 3) := by
  obtain ⟨k, rfl⟩ : ∃ m, k = m + 1 := ⟨k - 1, by omega⟩
  have each : ∀ b, ∃ z, X.money_digits.j0 (k + 1) s b = some z ∧ (z = 0 ∨ z = 2 ∨ z = 3) := by
    intro b
    simp only [X.money_digits.j0]
    split
    · exact ⟨0, rfl, .inl rfl⟩
    · split
      · exact ⟨3, rfl, .inr (.inr rfl)⟩
      · split
        · exact ⟨3, rfl, .inr (.inr rfl)⟩
        · split
          · exact ⟨3, rfl, .inr (.inr rfl)⟩
          · exact ⟨2, rfl, .inr (.inl rfl)⟩
  unfold X.money_digits.f
  split <;> exact each _
theorem extract_le (s : ByteArray) (i j : Nat) : (s.extract i j).size ≤ s.size := by simp; omega
theorem money_ex (s : ByteArray) (n : Int) (hs : curB s = true) (h1 : 1 ≤ n) (h2 : n ≤ 1099511627776) : ∃ m, X.money_Text.f 10 s n = some m ∧ m.size ≤ 1000 := by
  have h3 : s.size = 3 := by unfold curB at hs; simp only [Bool.and_eq_true, decide_eq_true_eq] at hs; exact hs.1
  unfold X.money_Text.f X.money_May.f money_currency.f X.money_within.f
  simp only [Option.bind_some]
  rw [hs, if_pos rfl, if_pos (by omega)]
  simp only [Option.bind_some]
  rw [if_pos (by simpa using h2), if_neg (by omega)]
  simp only [X.money_Text.j0]
  obtain ⟨z, hz, hzz⟩ := digits_case 9 (by omega) s
  have hl := Lib.itoa_length_le n (by omega) (by omega)
  have hF : strconv_FormatInt.f n 10 = some ⟨(Lib.itoa n).toArray⟩ := by unfold strconv_FormatInt.f; rw [if_pos ⟨by omega, by omega, rfl⟩]
  rw [hz, hF]
  simp only [Option.bind_some]
  have ht : (⟨(Lib.itoa n).toArray⟩ : ByteArray).size ≤ 21 := by simpa [ByteArray.size] using hl
  generalize (⟨(Lib.itoa n).toArray⟩ : ByteArray) = t at ht
  have e0 : (⟨#[]⟩ : ByteArray).size = 0 := rfl
  have e1 : (⟨#[32]⟩ : ByteArray).size = 1 := rfl
  have e2 : (⟨#[46]⟩ : ByteArray).size = 1 := rfl
  by_cases z0 : z = 0
  · rw [if_pos z0, if_pos (by omega), if_pos (by omega), if_pos (by omega)]
    exact ⟨_, rfl, by simp only [ByteArray.size_append]; omega⟩
  rw [if_neg z0]
  have hw : wrap64 (wrap64 (z + 1) - (t.size : Int)) = z + 1 - t.size := by rw [w64 (x := z + 1) (by omega) (by omega), w64 (by omega) (by omega)]
  rw [hw]
  by_cases c : z + 1 - (t.size : Int) > 0
  · rw [if_pos c]
    have hR : strings_Repeat.f (⟨#[48]⟩ : ByteArray) (z + 1 - (t.size : Int)) = some ⟨(Lib.repeatL [48] (z + 1 - (t.size : Int)).toNat).toArray⟩ := by
      unfold strings_Repeat.f
      rw [if_pos ⟨by omega, by omega, by show 1 ≤ 1000; omega⟩]
    rw [hR]
    simp only [Option.bind_some]
    have hq : ((⟨(Lib.repeatL [48] (z + 1 - (t.size : Int)).toNat).toArray⟩ : ByteArray).size : Int) = z + 1 - t.size := by
      have : (⟨(Lib.repeatL [48] (z + 1 - (t.size : Int)).toNat).toArray⟩ : ByteArray).size = (z + 1 - (t.size : Int)).toNat := by
        show (Lib.repeatL [48] (z + 1 - (t.size : Int)).toNat).toArray.size = _
        rw [List.size_toArray, Lib.repeatL_length]
        simp
      rw [this]; omega
    generalize (⟨(Lib.repeatL [48] (z + 1 - (t.size : Int)).toNat).toArray⟩ : ByteArray) = q at hq
    have hw2 : wrap64 ((q.size : Int) + (t.size : Int) - z) = 1 := by rw [w64 (by omega) (by omega)]; omega
    rw [hw2, if_pos (by omega), if_pos (by omega), if_pos (by omega), if_pos (by omega), if_pos (by omega), if_pos (by omega), if_pos (by omega), if_pos (by omega)]
    refine ⟨_, rfl, ?_⟩
    have g1 := extract_le (q ++ t) 0 (1 : Int).toNat
    have g2 := extract_le (q ++ t) (1 : Int).toNat (q ++ t).size
    simp only [ByteArray.size_append] at g1 g2 ⊢
    omega
  · rw [if_neg c]
    have hw2 : wrap64 ((t.size : Int) - z) = t.size - z := by rw [w64 (by omega) (by omega)]
    rw [hw2, if_pos (by omega), if_pos (by omega), if_pos (by omega), if_pos (by omega), if_pos (by omega), if_pos (by omega), if_pos (by omega)]
    refine ⟨_, rfl, ?_⟩
    have g1 := extract_le t 0 ((t.size : Int) - z).toNat
    have g2 := extract_le t ((t.size : Int) - z).toNat t.size
    simp only [ByteArray.size_append] at g1 g2 ⊢
    omega
theorem money_up (s : ByteArray) (n : Int) (m : ByteArray) (h : X.money_Text.f 10 s n = some m) (e : Nat) : X.money_Text.f (10 + e) s n = some m := by
  induction e with
  | zero => exact h
  | succ e ih => exact X.money_Text.mono s n (10 + e) m ih
theorem join8_eq (t0 t1 t2 t3 t4 t5 t6 t7 : ByteArray) : join8B [t0, t1, t2, t3, t4, t5, t6, t7] = t0 ++ ⟨#[32]⟩ ++ t1 ++ ⟨#[32]⟩ ++ t2 ++ ⟨#[32]⟩ ++ t3 ++ ⟨#[32]⟩ ++ t4 ++ ⟨#[32]⟩ ++ t5 ++ ⟨#[32]⟩ ++ t6 ++ ⟨#[32]⟩ ++ t7 := by
  apply ByteArray.ext
  apply Array.toList_inj.1
  simp [join8B, Lib.join, List.intercalate, List.intersperse]
/-! ### the law -/
noncomputable def dueP (l1 l2 : List Int) (d : Dr) : Int × Bool := if mayB d = true then nextP (calOf l1 l2).rests (d.frm + d.days) else (0, false)
theorem nextP_spec {R : Int → Bool} {s n : Int} (h : nextP R s = (n, true)) : NextIs R s n true := by
  unfold nextP at h
  by_cases hx : ∃ n, NextIs R s n true
  · rw [dif_pos hx] at h
    have e : Classical.choose hx = n := (Prod.mk.inj h).1
    rw [← e]
    exact Classical.choose_spec hx
  · rw [dif_neg hx] at h
    cases (Prod.mk.inj h).2
structure MayFacts (d : Dr) : Prop where
  (n0 : d.num.size ≤ 100) (n1 : d.drawer.size ≤ 100) (n2 : d.drawee.size ≤ 100) (n3 : d.payee.size ≤ 100)
  cur : curB d.cur = true
  (a1 : 1 ≤ d.amt) (a2 : d.amt ≤ 1099511627776) (f1 : 0 ≤ d.frm) (f2 : d.frm ≤ 1048576)
  kind : d.kind = 0 ∨ d.kind = 1 ∨ d.kind = 2
  (d1 : 0 ≤ d.days) (d2 : d.days ≤ 1000)
theorem may_all {d : Dr} (hS : Short d) (h : mayB d = true) : MayFacts d := by
  unfold mayB at h
  simp only [Bool.and_eq_true, decide_eq_true_eq, Bool.not_eq_true', beq_eq_false_iff_ne] at h
  obtain ⟨_, _, _, _, _, _, h7, h8, h9, h10, h11, h12⟩ := h
  unfold termB at h12
  have hk : (d.kind = 0 ∨ d.kind = 1 ∨ d.kind = 2) ∧ 0 ≤ d.days ∧ d.days ≤ 1000 := by
    by_cases k0 : d.kind = 0
    · rw [if_pos k0] at h12; have : d.days = 0 := by simpa using h12
      exact ⟨.inl k0, by omega, by omega⟩
    · by_cases k1 : d.kind = 1
      · rw [if_neg k0, if_pos k1] at h12; simp only [Bool.and_eq_true, decide_eq_true_eq] at h12; exact ⟨.inr (.inl k1), by omega, by omega⟩
      · by_cases k2 : d.kind = 2
        · rw [if_neg k0, if_neg k1, if_pos k2] at h12; simp only [Bool.and_eq_true, decide_eq_true_eq] at h12; exact ⟨.inr (.inr k2), by omega, by omega⟩
        · rw [if_neg k0, if_neg k1, if_neg k2] at h12; cases h12
  exact ⟨hS.h1, hS.h2, hS.h3, hS.h4, h7, h8, h9, h10, h11, hk.1, hk.2.1, hk.2.2⟩
theorem due_d (l1 l2 : List Int) (d : Dr) (hS : Short d) (h1 : l1.length ≤ 5000) (h2 : l2.length ≤ 5000) (k : Nat) (hk : 2 ≤ k) : Y.draft_Due.f k l1 l2 d.num d.drawer d.drawee d.payee d.cur d.amt d.kind d.days d.frm = some (dueP l1 l2 d) := by
  unfold Y.draft_Due.f dueP
  rw [mayd_f d hS k hk]
  simp only [Option.bind_some]
  by_cases hm : mayB d = true
  · have g := may_all hS hm
    have q1 := g.f1
    have q2 := g.f2
    have q3 := g.d1
    have q4 := g.d2
    rw [if_pos hm, if_pos hm]
    unfold Y.day_Next.f day_along.f
    rw [w64 (by omega) (by omega), if_pos ⟨h1, h2, rfl, rfl⟩]
    simp
  · rw [if_neg hm, if_neg hm]
theorem due_r (l1 l2 : List Int) (d : Dr) (hS : Short d) (h1 : l1.length ≤ 5000) (h2 : l2.length ≤ 5000) (k : Nat) (hk : 1100000 ≤ k) : X.supercargoref38_Due.f k l1 l2 d.num d.drawer d.drawee d.payee d.cur d.amt d.kind d.days d.frm = some (dueP l1 l2 d) := by
  unfold X.supercargoref38_Due.f dueP
  rw [may38_f d hS k (by omega)]
  simp only [Option.bind_some]
  by_cases hm : mayB d = true
  · have g := may_all hS hm
    have q1 := g.f1
    have q2 := g.f2
    have q3 := g.d1
    have q4 := g.d2
    rw [if_pos hm, if_pos hm, w64 (by omega) (by omega)]
    by_cases hle : d.frm + d.days ≤ 1048576
    · rw [is_f _ (by omega) hle]
      simp only [Option.bind_some]
      rw [if_pos trivial, walk_ref l1 l2 h1 h2 k hk _ (by omega) hle]
      simp
    · rw [is_no _ (by omega)]
      simp only [Option.bind_some]
      rw [if_neg (by simp)]
      have : NextIs (calOf l1 l2).rests (d.frm + d.days) 0 false := .inr ⟨rfl, rfl, .inr fun j g1 g2 => by omega⟩
      rw [nextP_eq this]
  · rw [if_neg hm, if_neg hm]
theorem works_ok (l1 l2 : List Int) (d : Dr) (h1 : l1.length ≤ 5000) (h2 : l2.length ≤ 5000) (k : Nat) (hk : 6000 ≤ k) (h : (dueP l1 l2 d).2 = true) : X.supercargoref02_Works.f k l1 l2 (dueP l1 l2 d).1 = some true := by
  unfold dueP at h ⊢
  by_cases hm : mayB d = true
  · rw [if_pos hm] at h ⊢
    obtain ⟨n, ok, he⟩ : ∃ n ok, nextP (calOf l1 l2).rests (d.frm + d.days) = (n, ok) := ⟨_, _, rfl⟩
    rw [he] at h ⊢
    have hok : ok = true := h
    subst hok
    rcases nextP_spec he with ⟨_, _, g1, g2, g3, _⟩ | ⟨h', _⟩
    · unfold X.supercargoref02_Works.f
      show (X.supercargoref02_Is.f n).bind _ = _
      rw [is_f n g1 g2]
      simp only [Option.bind_some]
      rw [if_pos trivial, rests_ref l1 l2 h1 h2 k hk n g1 g2, g3]
      rfl
    · cases h'
  · rw [if_neg hm] at h
    cases h
theorem kindB_size (k : Nat) : (kindB k).size ≤ 11 := by
  unfold kindB
  split
  · decide
  · decide
  · decide
theorem itoa_size (n : Int) (h0 : 0 ≤ n) (h1 : n ≤ 2000000) : (⟨(Lib.itoa n).toArray⟩ : ByteArray).size ≤ 21 := by
  have := Lib.itoa_length_le n (by omega) (by omega)
  simpa [ByteArray.size] using this
theorem text_d (d : Dr) (hS : Short d) (hm : mayB d = true) (m : ByteArray) (hM : X.money_Text.f 10 d.cur d.amt = some m) (hms : m.size ≤ 1000) :
    draft_Text.f d.num d.drawer d.drawee d.payee d.cur d.amt d.kind d.days d.frm = some (textB d.num d.drawer d.drawee d.payee m d.kind d.days d.frm) := by
  have g := may_all hS hm
  have q1 := g.f1
  have q2 := g.f2
  have q3 := g.d1
  have q4 := g.d2
  have i1 := itoa_size d.days q3 (by omega)
  have i2 := itoa_size d.frm q1 (by omega)
  have i3 := kindB_size d.kind.toNat
  have n0 := g.n0
  have n1 := g.n1
  have n2 := g.n2
  have n3 := g.n3
  have e1 : (⟨#[32]⟩ : ByteArray).size = 1 := rfl
  have hsz : (textB d.num d.drawer d.drawee d.payee m d.kind d.days d.frm).size ≤ 100000 := by
    unfold textB
    rw [join8_eq]
    simp only [ByteArray.size_append]
    omega
  unfold draft_Text.f
  rw [mayd_f d hS 10 (by omega), hm, hM]
  simp only [Option.bind_some]
  rw [if_pos trivial, if_pos ⟨g.kind, ⟨by omega, by omega⟩, ⟨by omega, by omega⟩, hsz⟩]
theorem j1_ok (d : Dr) (hS : Short d) (k : Nat) (hk : 1100000 ≤ k) : Y.supercargolaw38_DraftDue.j1 (k + 1) false d.num d.drawer d.drawee d.payee d.cur d.amt d.kind d.days d.frm = some true := by
  simp only [Y.supercargolaw38_DraftDue.j1]
  rw [if_neg (by simp), may38_f d hS k (by omega)]
  simp only [Option.bind_some]
  by_cases hm : mayB d = true
  · have g := may_all hS hm
    have q1 := g.f1
    have q2 := g.f2
    have q3 := g.d1
    have q4 := g.d2
    have i1 := itoa_size d.days q3 (by omega)
    have i2 := itoa_size d.frm q1 (by omega)
    have i3 := kindB_size d.kind.toNat
    have n0 := g.n0
    have n1 := g.n1
    have n2 := g.n2
    have n3 := g.n3
    have hkd := g.kind
    obtain ⟨m, hM, hms⟩ := money_ex d.cur d.amt g.cur g.a1 g.a2
    have hMk : X.money_Text.f k d.cur d.amt = some m := by
      have := money_up d.cur d.amt m hM (k - 10)
      rwa [show 10 + (k - 10) = k by omega] at this
    have hrd : rdOf ByteArray.empty [(⟨#[115, 105, 103, 104, 116]⟩ : ByteArray), (⟨#[97, 102, 116, 101, 114, 45, 115, 105, 103, 104, 116]⟩ : ByteArray), (⟨#[97, 102, 116, 101, 114, 45, 100, 97, 116, 101]⟩ : ByteArray)] d.kind = kindB d.kind.toNat := by
      rcases hkd with e | e | e <;> rw [e] <;> rfl
    rw [if_pos hm, text_d d hS hm m hM hms, hMk, digits_f d.days q3 (by omega) k (by omega), digits_f d.frm q1 (by omega) k (by omega)]
    simp only [Option.bind_some]
    rw [hrd]
    rw [if_pos (by omega), if_pos (by omega), if_pos (by omega), if_pos (by omega), if_pos (by omega), if_pos (by omega), if_pos (by omega), if_pos (by omega), if_pos (by omega), if_pos (by omega), if_pos (by show d.kind < 3; omega), if_pos (by omega), if_pos (by omega), if_pos (by omega), if_pos (by omega), if_pos (by omega)]
    unfold textB
    rw [join8_eq]
    simp
  · rw [if_neg hm]
    have : draft_Text.f d.num d.drawer d.drawee d.payee d.cur d.amt d.kind d.days d.frm = some ⟨#[]⟩ := by
      unfold draft_Text.f
      rw [mayd_f d hS 10 (by omega)]
      simp only [Option.bind_some]
      rw [if_neg hm]
    rw [this]
    simp only [Option.bind_some]
    rw [ByteArray.toList_eq]
    rfl
theorem j0_ok (l1 l2 : List Int) (d : Dr) (hS : Short d) (h1 : l1.length ≤ 5000) (h2 : l2.length ≤ 5000) (k : Nat) (hk : 1100000 ≤ k) : Y.supercargolaw38_DraftDue.j0 (k + 2) false l1 l2 d.num d.drawer d.drawee d.payee d.cur d.amt d.kind d.days d.frm = some true := by
  simp only [Y.supercargolaw38_DraftDue.j0]
  rw [if_neg (by simp), due_d l1 l2 d hS h1 h2 (k + 1) (by omega), due_r l1 l2 d hS h1 h2 (k + 1) (by omega), mayd_f d hS (k + 1) (by omega), may38_f d hS (k + 1) (by omega)]
  simp only [Option.bind_some]
  rw [if_neg (by simp), if_pos trivial, if_neg (by simp)]
  by_cases ho : (dueP l1 l2 d).2 = true
  · rw [if_pos ho, works_ok l1 l2 d h1 h2 (k + 1) (by omega) ho]
    simp only [Option.bind_some]
    exact j1_ok d hS k hk
  · rw [if_neg ho]
    exact j1_ok d hS k hk
theorem long_case (d : Dr) : ∃ rl, X.supercargolaw38_long.f d.num d.drawer d.drawee d.payee d.cur d.amt d.kind d.days d.frm = some rl ∧ (rl = false → Short d) := by
  unfold X.supercargolaw38_long.f
  by_cases h1 : (d.num.size : Int) > 100
  · exact ⟨true, if_pos h1, fun h => by cases h⟩
  by_cases h2 : (d.drawer.size : Int) > 100
  · exact ⟨true, by rw [if_neg h1, if_pos h2], fun h => by cases h⟩
  by_cases h3 : (d.drawee.size : Int) > 100
  · exact ⟨true, by rw [if_neg h1, if_neg h2, if_pos h3], fun h => by cases h⟩
  by_cases h4 : (d.payee.size : Int) > 100
  · exact ⟨true, by rw [if_neg h1, if_neg h2, if_neg h3, if_pos h4], fun h => by cases h⟩
  · exact ⟨_, by rw [if_neg h1, if_neg h2, if_neg h3, if_neg h4], fun _ => ⟨by omega, by omega, by omega, by omega⟩⟩
theorem j0_true (k : Nat) (l1 l2 : List Int) (a0 a1 a2 a3 a4 : ByteArray) (a5 a6 a7 a8 : Int) : Y.supercargolaw38_DraftDue.j0 (k + 2) true l1 l2 a0 a1 a2 a3 a4 a5 a6 a7 a8 = some true := by
  simp only [Y.supercargolaw38_DraftDue.j0]
  rw [if_pos trivial]
theorem DraftDue (l1 l2 : List Int) (d : Dr) : ∃ k, Y.supercargolaw38_DraftDue.f k l1 l2 d.num d.drawer d.drawee d.payee d.cur d.amt d.kind d.days d.frm = some true := by
  obtain ⟨k, hk⟩ : ∃ k : Nat, 1100000 ≤ k := ⟨1100000, Nat.le_refl _⟩
  refine ⟨k + 2, ?_⟩
  unfold Y.supercargolaw38_DraftDue.f supercargolaw38_awake.f
  simp only [Option.bind_some]
  rw [if_pos trivial]
  obtain ⟨rl, hl, hS⟩ := long_case d
  rw [hl]
  simp only [Option.bind_some]
  cases rl with
  | true => rw [if_pos rfl]; exact j0_true k l1 l2 _ _ _ _ _ _ _ _ _
  | false =>
    rw [if_neg (by simp)]
    by_cases h1 : (l1.length : Int) > 20
    · rw [if_pos h1]; exact j0_true k l1 l2 _ _ _ _ _ _ _ _ _
    · rw [if_neg h1]
      by_cases h2 : (l2.length : Int) > 60
      · rw [decide_eq_true h2]; exact j0_true k l1 l2 _ _ _ _ _ _ _ _ _
      · rw [decide_eq_false h2]; exact j0_ok l1 l2 d (hS rfl) (by omega) (by omega) k hk
end Go.Proofs.YtcmjgkmnbenniaaGreatDoor.Pure
