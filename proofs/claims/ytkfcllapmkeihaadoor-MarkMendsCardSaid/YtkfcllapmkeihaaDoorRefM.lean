/- The reference's Mend (chapter 3) and mark.Mend's list are one list. -/
import Derived.Sort.Walk0
import Derived.Test.YtkfcllapmkeihaaDoorRefC
import Derived.Test.YtkfcllapmkeihaaDoorExtM
import Derived.Test.YtkfcllapmkeihaaDoorXx7
import Derived.Test.YtkfcllapmkeihaaDoorXx8
import Derived.Test.YtkfcllapmkeihaaDoorXx9
namespace Go.Proofs.YtkfcllapmkeihaaDoor.Ref
open Go.RowKit Go.Proofs.YtkfcllapmkeihaaDoor.X Go.Proofs.YtkfcllapmkeihaaDoor.Ext Go.Proofs.YtkfcllapmkeihaaDoorW.PrintWords
open Go.Maps (has setOf tidy_setOf has_setOf)
theorem toList_iff0 {a b : ByteArray} : a.toList = b.toList ↔ a = b := by
  rw [ByteArray.toList_eq, ByteArray.toList_eq]
  exact ⟨bytes_ext, fun h => by rw [h]⟩
abbrev bl (s : ByteArray) : List UInt8 := s.data.toList
/-! ### the set's keys -/
theorem setM_keys {H : Type} (acc : List ByteArray) : ∃ es, setM (H := H) acc = .map es ∧ es.Pairwise (fun p q => p.1 ≠ q.1) ∧ ∀ p ∈ es, ∃ x, p.1 = .string x := by
  obtain ⟨es, he, hp⟩ := tidy_setOf (H := H) (.lit (.bool true)) (acc.map fun t => Lit.string t.data.toList) (fun x hx => by obtain ⟨_, _, rfl⟩ := List.mem_map.1 hx; trivial)
  refine ⟨es, he, hp, fun p hp' => ?_⟩
  have hh : has (.map es) p.1 = true := by
    rw [Go.Maps.has_eq, List.any_eq_true]
    refine ⟨p, hp', ?_⟩
    have aux : ∀ (acc : List ByteArray) (m : DataW H), (∀ q : List (Lit × DataW H), m = .map q → ∀ p ∈ q, ∃ x, p.1 = .string x) → ∀ q, (acc.map fun t => Lit.string t.data.toList).foldl (fun m x => m.put x (.lit (.bool true))) m = .map q → ∀ p ∈ q, ∃ x, p.1 = .string x := by
      intro acc
      induction acc with
      | nil => exact fun m h q e => h q e
      | cons a r ih =>
        intro m h q e
        refine ih _ (fun q' e' p' hp' => ?_) q e
        cases m with
        | map es0 =>
          have e2 : (DataW.map es0).put (Lit.string a.data.toList) (.lit (.bool true)) = .map (DataW.insert (Lit.string a.data.toList, .lit (.bool true)) (es0.filter fun p => !p.1.sameKey (Lit.string a.data.toList))) := rfl
          replace e' := e2.symm.trans e'
          injection e' with e'
          subst e'
          rcases Go.ChangeMaps.mem_insert_iff.1 hp' with rfl | h2
          · exact ⟨_, rfl⟩
          · exact h _ rfl _ (List.mem_filter.1 h2).1
        | _ => cases e'
    obtain ⟨x, hx⟩ := aux acc (.map []) (fun q e p hp => by injection e with e; subst e; cases hp) es he p hp'
    rw [hx]; simp [Lit.sameKey]
  rw [← he] at hh
  rw [has_setOf _ _ _ (fun y hy => by obtain ⟨_, _, rfl⟩ := List.mem_map.1 hy; trivial), List.any_eq_true] at hh
  obtain ⟨y, hy, hk⟩ := hh
  obtain ⟨t, _, rfl⟩ := List.mem_map.1 hy
  exact ⟨_, (Go.WideAt.sameKey_eq hk).symm⟩
/-- What is sorted, has nothing twice and holds what was found is Mend's list. -/
theorem mendLL_eq (s : ByteArray) (L : List (List UInt8)) (hso : L.Pairwise (· < ·)) (hm : ∀ x, x ∈ L ↔ ∃ t ∈ outerM s 12, t.data.toList = x) : mendLL s = L := by
  obtain ⟨es, he, hp, hk⟩ := setM_keys (H := Unit) (outerM s 12)
  have hnd : L.Nodup := hso.imp fun {a b} (h : a < b) e => by subst e; exact List.lt_irrefl _ h
  have hperm : L.Perm (Go.strKeys (setM (H := Unit) (outerM s 12))) := by
    rw [he]
    refine Go.perm_strKeys hp hk hnd fun x => ?_
    rw [← he, hm x]
    unfold setM
    rw [has_setOf _ _ _ (fun y hy => by obtain ⟨_, _, rfl⟩ := List.mem_map.1 hy; trivial), List.any_map, List.any_eq_true]
    constructor
    · rintro ⟨t, ht, rfl⟩
      exact ⟨t, ht, by simp [Lit.sameKey]⟩
    · rintro ⟨t, ht, h⟩
      exact ⟨t, ht, by simpa [Lit.sameKey] using h⟩
  unfold mendLL
  rw [← Go.mergeSort_of_perm hperm]
  exact List.mergeSort_of_pairwise (hso.imp fun {a b} (h : a < b) => by simp only [decide_eq_true_eq]; exact List.le_of_lt h)
/-! ### what is found -/
theorem mem_fold (s : ByteArray) (i : Nat) : ∀ (l : List UInt8) (acc : List ByteArray) (t : ByteArray), t ∈ l.foldl (stepM s i) acc ↔ t ∈ acc ∨ ∃ c ∈ l, t = candM s i c ∧ t ≠ s ∧ rightB t = true
  | [], acc, t => by simp
  | c :: r, acc, t => by
    rw [List.foldl_cons, mem_fold s i r, show (t ∈ stepM s i acc c ↔ t ∈ acc ∨ (t = candM s i c ∧ t ≠ s ∧ rightB t = true)) by
      unfold stepM
      split
      · rename_i h
        rw [List.mem_append, List.mem_singleton]
        exact or_congr_right ⟨fun e => by subst e; exact ⟨rfl, h⟩, fun e => e.1⟩
      · rename_i h
        refine ⟨Or.inl, fun h2 => h2.resolve_right ?_⟩
        rintro ⟨rfl, h3⟩
        exact h h3]
    simp only [List.mem_cons, exists_eq_or_imp, or_assoc]
theorem mem_outer (s : ByteArray) (t : ByteArray) : ∀ k, t ∈ outerM s k ↔ ∃ i < k, ∃ c ∈ bl (chB i), t = candM s i c ∧ t ≠ s ∧ rightB t = true
  | 0 => by simp [outerM]
  | k + 1 => by
    show t ∈ innerM s k (outerM s k) (chB k).size ↔ _
    unfold innerM
    rw [mem_fold, mem_outer s t k, List.take_of_length_le (l := (chB k).data.toList) (i := (chB k).size) (Nat.le_refl _)]
    constructor
    · rintro (⟨i, hi, h⟩ | h)
      · exact ⟨i, by omega, h⟩
      · exact ⟨k, by omega, h⟩
    · rintro ⟨i, hi, h⟩
      by_cases e : i = k
      · subst e; exact Or.inr h
      · exact Or.inl ⟨i, by omega, h⟩
theorem in_choices (c : UInt8) (i : Nat) (h : if i < 4 then isLow c = true else isDig c = true) : c ∈ bl (chB i) := by
  unfold chB
  split at h
  · rename_i h4
    rw [if_pos h4]
    unfold isLow at h
    simp only [Bool.and_eq_true, decide_eq_true_eq] at h
    obtain ⟨n, hn, rfl⟩ : ∃ n : Nat, n < 256 ∧ c = UInt8.ofNat n := ⟨c.toNat, c.toNat_lt, by simp⟩
    rw [UInt8.toNat_ofNat_of_lt' (by simpa using hn)] at h
    obtain ⟨h1, h2⟩ := h
    have : n = 97 ∨ n = 98 ∨ n = 99 ∨ n = 100 ∨ n = 101 ∨ n = 102 ∨ n = 103 ∨ n = 104 ∨ n = 105 ∨ n = 106 ∨ n = 107 ∨ n = 108 ∨ n = 109 ∨ n = 110 ∨ n = 111 ∨ n = 112 ∨ n = 113 ∨ n = 114 ∨ n = 115 ∨ n = 116 ∨ n = 117 ∨ n = 118 ∨ n = 119 ∨ n = 120 ∨ n = 121 ∨ n = 122 := by omega
    rcases this with rfl | rfl | rfl | rfl | rfl | rfl | rfl | rfl | rfl | rfl | rfl | rfl | rfl | rfl | rfl | rfl | rfl | rfl | rfl | rfl | rfl | rfl | rfl | rfl | rfl | rfl <;> decide
  · rename_i h4
    rw [if_neg h4]
    unfold isDig at h
    simp only [Bool.and_eq_true, decide_eq_true_eq] at h
    obtain ⟨n, hn, rfl⟩ : ∃ n : Nat, n < 256 ∧ c = UInt8.ofNat n := ⟨c.toNat, c.toNat_lt, by simp⟩
    rw [UInt8.toNat_ofNat_of_lt' (by simpa using hn)] at h
    obtain ⟨h1, h2⟩ := h
    have : n = 48 ∨ n = 49 ∨ n = 50 ∨ n = 51 ∨ n = 52 ∨ n = 53 ∨ n = 54 ∨ n = 55 ∨ n = 56 ∨ n = 57 := by omega
    rcases this with rfl | rfl | rfl | rfl | rfl | rfl | rfl | rfl | rfl | rfl <;> decide
theorem of_choices (c : UInt8) (i : Nat) (h : c ∈ bl (chB i)) : 48 ≤ c.toNat ∧ c.toNat ≤ 122 := by
  unfold chB at h
  split at h
  · simp only [bl, List.mem_cons, List.not_mem_nil, or_false] at h
    rcases h with rfl | rfl | rfl | rfl | rfl | rfl | rfl | rfl | rfl | rfl | rfl | rfl | rfl | rfl | rfl | rfl | rfl | rfl | rfl | rfl | rfl | rfl | rfl | rfl | rfl | rfl <;> decide
  · simp only [bl, List.mem_cons, List.not_mem_nil, or_false] at h
    rcases h with rfl | rfl | rfl | rfl | rfl | rfl | rfl | rfl | rfl | rfl <;> decide
/-! ### one sign changed -/
theorem sgn_lt' (s t : ByteArray) (k : Nat) (h : k < s.size) : sgn (s ++ t) k = sgn s k := by
  unfold sgn
  rw [append_list, List.getD_eq_getElem?_getD, List.getD_eq_getElem?_getD, List.getElem?_append_left (by rw [size_list]; omega)]
theorem sgn_ge' (s t : ByteArray) (k : Nat) (h : s.size ≤ k) : sgn (s ++ t) k = sgn t (k - s.size) := by
  unfold sgn
  rw [append_list, List.getD_eq_getElem?_getD, List.getD_eq_getElem?_getD, List.getElem?_append_right (by rw [size_list]; omega), size_list]
theorem cand_size (s : ByteArray) (i : Nat) (c : UInt8) (h : i < s.size) : (candM s i c).size = s.size := by
  unfold candM
  rw [ByteArray.size_append, ByteArray.size_append]
  simp
  rw [show (⟨#[c]⟩ : ByteArray).size = 1 from rfl]
  omega
theorem cand_sgn (s : ByteArray) (i : Nat) (c : UInt8) (h : i < s.size) (j : Nat) (hj : j < s.size) : sgn (candM s i c) j = if j = i then c else sgn s j := by
  have h1 : (s.extract 0 i).size = i := by simp; omega
  have h2 : (s.extract 0 i ++ ⟨#[c]⟩).size = i + 1 := by rw [ByteArray.size_append, h1]; rfl
  unfold candM
  by_cases c1 : j < i
  · rw [sgn_lt' _ _ _ (by omega), sgn_lt' _ _ _ (by omega), sgn_extract s 0 i j (by omega) (by omega), Nat.zero_add, if_neg (by omega)]
  · by_cases c2 : j = i
    · subst c2
      rw [sgn_lt' _ _ _ (by omega), sgn_ge' _ _ _ (by omega), h1, if_pos rfl, Nat.sub_self]
      rfl
    · rw [sgn_ge' _ _ _ (by omega), h2, sgn_extract s (i + 1) s.size (j - (i + 1)) (by omega) (by omega), if_neg c2]
      congr 1
      omega
/-- Two changes of one text that give one other text are one change. -/
theorem cand_inj {s : ByteArray} {i j : Nat} {c d : UInt8} (hi : i < s.size) (hj : j < s.size) (h : candM s i c = candM s j d) (hn : candM s i c ≠ s) : i = j ∧ c = d := by
  have e1 := cand_sgn s i c hi
  have e2 := cand_sgn s j d hj
  have hc : c ≠ sgn s i := fun e => hn (ext_sgn (cand_size s i c hi) fun k hk => by
    rw [cand_size s i c hi] at hk
    rw [e1 k hk]; split
    · rename_i q; rw [q, e]
    · rfl)
  have q := e1 i hi
  rw [if_pos rfl, h, e2 i hi] at q
  by_cases e : i = j
  · subst e
    rw [if_pos rfl] at q
    exact ⟨rfl, q.symm⟩
  · rw [if_neg e] at q
    exact absurd q.symm hc
/-- A right text has no other right text one change away. -/
theorem cand_right {s : ByteArray} (h : rightB s = true) (i : Nat) (hi : i < 12) (c : UInt8) (hr : rightB (candM s i c) = true) : candM s i c = s := by
  have h12 := right_size h
  have hz := cand_size s i c (by omega)
  have hs := cand_sgn s i c (by omega)
  have e : sgn (candM s i c) i = sgn s i := val_inj i (right_sign hr i hi) (right_sign h i hi) (changed (worth hr) (worth h) i (by omega) fun j hj hne => by
    show valI (sgn s j) = valI (sgn (candM s i c) j)
    rw [hs j (by omega), if_neg hne])
  refine ext_sgn hz fun j hj => ?_
  by_cases q : j = i
  · rw [q, e]
  · rw [hs j (by omega), if_neg q]
/-! ### the reference -/
theorem candR_eq (s : ByteArray) (i c : Nat) (h : c < 256) : s.extract 0 i ++ strOfNums [(c : Int) % 256] ++ s.extract (i + 1) s.size = candM s i (UInt8.ofNat c) := by
  unfold candM
  have : strOfNums [(c : Int) % 256] = ⟨#[UInt8.ofNat c]⟩ := by
    refine bytes_ext ?_
    rw [strOfNums_data]
    simp only [List.map_cons, List.map_nil]
    rw [show ((c : Int) % 256).toNat = c by omega]
  rw [this]
def insB (t : ByteArray) : List ByteArray → List ByteArray
  | [] => [t]
  | a :: r => if bl a < bl t then a :: insB t r else t :: a :: r
theorem insB_length (t : ByteArray) : ∀ l, (insB t l).length = l.length + 1
  | [] => rfl
  | a :: r => by unfold insB; split <;> simp [insB_length t r]
theorem insB_mem (t x : ByteArray) : ∀ l, x ∈ insB t l ↔ x = t ∨ x ∈ l
  | [] => by simp [insB]
  | a :: r => by
    unfold insB; split
    · rw [List.mem_cons, insB_mem t x r, List.mem_cons]
      constructor
      · rintro (h | h | h) <;> simp [h]
      · rintro (h | h | h) <;> simp [h]
    · rw [List.mem_cons]
theorem insB_sorted (t : ByteArray) : ∀ l : List ByteArray, l.Pairwise (fun a b => bl a < bl b) → t ∉ l → (insB t l).Pairwise fun a b => bl a < bl b
  | [], _, _ => by simp [insB]
  | a :: r, h, hn => by
    unfold insB
    obtain ⟨h1, h2⟩ := List.pairwise_cons.1 h
    split
    · rename_i c
      refine List.pairwise_cons.2 ⟨fun x hx => ?_, insB_sorted t r h2 fun q => hn (List.mem_cons_of_mem _ q)⟩
      rcases (insB_mem t x r).1 hx with rfl | hx
      · exact c
      · exact h1 x hx
    · rename_i c
      have hlt : bl t < bl a := by
        rcases List.le_iff_lt_or_eq.1 (List.not_lt.1 c) with q | q
        · exact q
        · exact absurd (bytes_ext q) fun e => hn (by rw [e]; exact List.mem_cons_self)
      refine List.pairwise_cons.2 ⟨fun x hx => ?_, h⟩
      rcases List.mem_cons.1 hx with rfl | hx
      · exact hlt
      · exact List.lt_trans hlt (h1 x hx)
theorem put_l (l : List ByteArray) (t : ByteArray) (hl : l.length ≤ 2000) (d : Nat) : ∀ (k i : Nat), i + d = l.length → d < k →
    supercargoref03_put.l0 k l t (i : Int) = some (l.take i ++ insB t (l.drop i)) := by
  induction d with
  | zero =>
    intro k i h hk
    obtain ⟨k, rfl⟩ : ∃ m, k = m + 1 := ⟨k - 1, by omega⟩
    simp only [supercargoref03_put.l0]
    rw [if_neg (by omega)]
    simp only [Option.bind_some, List.nil_append, Int.toNat_natCast]
    rw [if_pos (by omega), if_pos (by omega), if_pos (by simp; omega), if_pos (by simp; omega), if_pos (by simp; omega)]
    rw [List.drop_of_length_le (by omega)]
    simp [insB]
  | succ d ih =>
    intro k i h hk
    obtain ⟨k, rfl⟩ : ∃ m, k = m + 1 := ⟨k - 1, by omega⟩
    simp only [supercargoref03_put.l0]
    have hi : i < l.length := by omega
    rw [if_pos (by omega), if_pos (by omega)]
    have e : rdOf ByteArray.empty l (i : Int) = l[i] := by unfold rdOf; rw [Int.toNat_natCast, List.getD_eq_getElem?_getD, List.getElem?_eq_getElem hi]; rfl
    rw [e, Go.Proofs.bytesLess_eq, ByteArray.toList_eq, ByteArray.toList_eq, List.drop_eq_getElem_cons hi]
    unfold insB
    simp only [decide_eq_true_eq]
    by_cases c : bl l[i] < bl t
    · rw [if_pos c, if_pos c, w64 (by omega) (by omega), show ((i : Int) + 1) = ((i + 1 : Nat) : Int) by omega, ih k (i + 1) (by omega) (by omega), List.take_succ_eq_append_getElem hi, List.append_assoc]
      rfl
    · rw [if_neg c, if_neg c]
      simp only [Option.bind_some, List.nil_append, Int.toNat_natCast]
      rw [if_pos (by omega), if_pos (by simp; omega), if_pos (by simp; omega), if_pos (by simp; omega), List.drop_eq_getElem_cons hi]
      simp
theorem put_f (l : List ByteArray) (t : ByteArray) (hl : l.length ≤ 2000) (k : Nat) (hk : l.length < k) : supercargoref03_put.f k l t = some (insB t l) := by
  have := put_l l t hl l.length k 0 (by omega) hk
  simpa [supercargoref03_put.f] using this
def stepR (s : ByteArray) (i : Nat) (L : List ByteArray) (c : Nat) : List ByteArray :=
  if candM s i (UInt8.ofNat c) = s then L else if rightB (candM s i (UInt8.ofNat c)) = true then insB (candM s i (UInt8.ofNat c)) L else L
theorem stepR_length (s : ByteArray) (i : Nat) (L : List ByteArray) (c : Nat) : (stepR s i L c).length ≤ L.length + 1 := by
  unfold stepR; split
  · omega
  · split
    · rw [insB_length]; omega
    · omega
theorem foldR_length (s : ByteArray) (i : Nat) : ∀ (cs : List Nat) (L : List ByteArray), (cs.foldl (stepR s i) L).length ≤ L.length + cs.length
  | [], L => by simp
  | c :: r, L => by
    have h1 := foldR_length s i r (stepR s i L c)
    have h2 := stepR_length s i L c
    simp only [List.foldl_cons, List.length_cons]
    omega
theorem mendR_inner (s : ByteArray) (h12 : s.size = 12) (i : Nat) (hi : i < 12) (k' : Nat) (hk' : 1000 ≤ k') (d : Nat) : ∀ (c : Nat) (L : List ByteArray), c + d = 123 → L.length + d ≤ 990 →
    supercargoref03_Mend.l1 (k' + d + 1) s L (i : Int) (c : Int) = supercargoref03_Mend.l0 k' s ((List.range' c d).foldl (stepR s i) L) ((i + 1 : Nat) : Int) := by
  induction d with
  | zero =>
    intro c L h _
    show supercargoref03_Mend.l1 (k' + 1) s L (i : Int) (c : Int) = _
    simp only [supercargoref03_Mend.l1]
    rw [if_neg (by omega), w64 (by omega) (by omega)]
    rfl
  | succ d ih =>
    intro c L h hL
    show supercargoref03_Mend.l1 ((k' + d + 1) + 1) s L (i : Int) (c : Int) = _
    have hK : 1000 + d ≤ k' + d + 1 := by omega
    replace ih := ih (c + 1) (stepR s i L c) (by omega) (by have := stepR_length s i L c; omega)
    generalize k' + d + 1 = K at hK ih ⊢
    simp only [supercargoref03_Mend.l1]
    have e1 : wrap64 ((i : Int) + 1) = ((i + 1 : Nat) : Int) := by rw [w64 (by omega) (by omega)]; omega
    have e2 : wrap64 ((c : Int) + 1) = ((c + 1 : Nat) : Int) := by rw [w64 (by omega) (by omega)]; omega
    rw [if_pos (by omega), if_pos (by omega), if_pos (by omega), e1, e2]
    simp only [Option.bind_some, Int.toNat_natCast]
    rw [if_pos (by rw [strOfNums_size]; simp; omega), if_pos (by omega), if_pos (by omega), if_pos (by rw [strOfNums_size]; simp; omega), candR_eq s i c (by omega)]
    have hstep := stepR_length s i L c
    have e3 : (List.range' c (d + 1)).foldl (stepR s i) L = (List.range' (c + 1) d).foldl (stepR s i) (stepR s i L c) := by rw [List.range'_succ, List.foldl_cons]
    rw [e3, ← ih]
    unfold stepR
    by_cases q : candM s i (UInt8.ofNat c) = s
    · rw [if_pos (toList_iff0.2 q), if_pos q]
    · rw [if_neg (fun e => q (toList_iff0.1 e)), if_neg q, right_f _ _ (by omega)]
      simp only [Option.bind_some]
      by_cases g : rightB (candM s i (UInt8.ofNat c)) = true
      · rw [if_pos g, if_pos g, put_f _ _ (by omega) _ (by omega)]
        rfl
      · rw [if_neg g, if_neg g]
def mendR (s : ByteArray) : Nat → List ByteArray
  | 0 => []
  | i + 1 => (List.range' 48 75).foldl (stepR s i) (mendR s i)
theorem mendR_length (s : ByteArray) : ∀ i, (mendR s i).length ≤ 75 * i
  | 0 => by simp [mendR]
  | i + 1 => by
    have h1 := mendR_length s i
    have h2 := foldR_length s i (List.range' 48 75) (mendR s i)
    rw [List.length_range'] at h2
    show ((List.range' 48 75).foldl (stepR s i) (mendR s i)).length ≤ _
    omega
theorem mendR_outer (s : ByteArray) (h12 : s.size = 12) (e : Nat) : ∀ i, i + e = 12 → supercargoref03_Mend.l0 (1001 + 77 * e) s (mendR s i) (i : Int) = some (mendR s 12) := by
  induction e with
  | zero =>
    intro i h
    obtain rfl : i = 12 := by omega
    show supercargoref03_Mend.l0 (1000 + 1) s _ _ = _
    simp only [supercargoref03_Mend.l0]
    rw [if_neg (by omega)]
  | succ e ih =>
    intro i h
    rw [show 1001 + 77 * (e + 1) = ((1001 + 77 * e) + 75 + 1) + 1 by omega]
    simp only [supercargoref03_Mend.l0]
    have hl := mendR_length s i
    rw [if_pos (by omega), show (48 : Int) = ((48 : Nat) : Int) from rfl, mendR_inner s h12 i (by omega) (1001 + 77 * e) (by omega) 75 48 (mendR s i) (by omega) (by omega)]
    exact ih (i + 1) (by omega)
/-- What the reference has found. -/
theorem mendR_inv_in (s : ByteArray) (h12 : s.size = 12) (i : Nat) (hi : i < 12) (L0 : List ByteArray)
    (h0 : L0.Pairwise fun a b => bl a < bl b) (hm0 : ∀ x, x ∈ L0 ↔ ∃ j < i, ∃ c, 48 ≤ c ∧ c < 123 ∧ x = candM s j (UInt8.ofNat c) ∧ x ≠ s ∧ rightB x = true) (d : Nat) : d ≤ 75 →
    ((List.range' 48 d).foldl (stepR s i) L0).Pairwise (fun a b => bl a < bl b) ∧ ∀ x, x ∈ (List.range' 48 d).foldl (stepR s i) L0 ↔ x ∈ L0 ∨ ∃ c, 48 ≤ c ∧ c < 48 + d ∧ x = candM s i (UInt8.ofNat c) ∧ x ≠ s ∧ rightB x = true := by
  induction d with
  | zero =>
    intro _
    refine ⟨h0, fun x => ⟨Or.inl, ?_⟩⟩
    rintro (h | ⟨c, h1, h2, _⟩)
    · exact h
    · omega
  | succ d ih =>
    intro hd
    obtain ⟨i1, i2⟩ := ih (by omega)
    rw [List.range'_concat, List.foldl_append]
    simp only [List.foldl_cons, List.foldl_nil, Nat.one_mul]
    generalize hLL : (List.range' 48 d).foldl (stepR s i) L0 = LL at i1 i2 ⊢
    have hmem : ∀ x, (∃ c, 48 ≤ c ∧ c < 48 + (d + 1) ∧ x = candM s i (UInt8.ofNat c) ∧ x ≠ s ∧ rightB x = true) ↔ (∃ c, 48 ≤ c ∧ c < 48 + d ∧ x = candM s i (UInt8.ofNat c) ∧ x ≠ s ∧ rightB x = true) ∨ (x = candM s i (UInt8.ofNat (48 + d)) ∧ x ≠ s ∧ rightB x = true) := by
      intro x
      constructor
      · rintro ⟨c, h1, h2, h3⟩
        by_cases e : c = 48 + d
        · subst e; exact Or.inr h3
        · exact Or.inl ⟨c, h1, by omega, h3⟩
      · rintro (⟨c, h1, h2, h3⟩ | h3)
        · exact ⟨c, h1, by omega, h3⟩
        · exact ⟨48 + d, by omega, by omega, h3⟩
    unfold stepR
    by_cases q : candM s i (UInt8.ofNat (48 + d)) = s
    · rw [if_pos q]
      refine ⟨i1, fun x => ?_⟩
      rw [i2 x, hmem x]
      refine or_congr_right ⟨Or.inl, fun h => h.resolve_right ?_⟩
      rintro ⟨rfl, h2, _⟩
      exact h2 q
    · rw [if_neg q]
      by_cases g : rightB (candM s i (UInt8.ofNat (48 + d))) = true
      · rw [if_pos g]
        have hnew : candM s i (UInt8.ofNat (48 + d)) ∉ LL := by
          intro hx
          rcases (i2 _).1 hx with hx | ⟨c, h1, h2, h3, _⟩
          · obtain ⟨j, hj, c, _, _, h3, _⟩ := (hm0 _).1 hx
            have := (cand_inj (by omega) (by omega) h3 q).1
            omega
          · have := (cand_inj (by omega) (by omega) h3 q).2
            have := congrArg UInt8.toNat this
            rw [UInt8.toNat_ofNat_of_lt' (by show 48 + d < 256; omega), UInt8.toNat_ofNat_of_lt' (by show c < 256; omega)] at this
            omega
        refine ⟨insB_sorted _ _ i1 hnew, fun x => ?_⟩
        rw [insB_mem, i2 x, hmem x]
        constructor
        · rintro (rfl | h | h)
          · exact Or.inr (Or.inr ⟨rfl, q, g⟩)
          · exact Or.inl h
          · exact Or.inr (Or.inl h)
        · rintro (h | h | ⟨h, _⟩)
          · exact Or.inr (Or.inl h)
          · exact Or.inr (Or.inr h)
          · exact Or.inl h
      · rw [if_neg g]
        refine ⟨i1, fun x => ?_⟩
        rw [i2 x, hmem x]
        refine or_congr_right ⟨Or.inl, fun h => h.resolve_right ?_⟩
        rintro ⟨rfl, _, h3⟩
        exact g h3
theorem mendR_inv (s : ByteArray) (h12 : s.size = 12) : ∀ i, i ≤ 12 → (mendR s i).Pairwise (fun a b => bl a < bl b) ∧ ∀ x, x ∈ mendR s i ↔ ∃ j < i, ∃ c, 48 ≤ c ∧ c < 123 ∧ x = candM s j (UInt8.ofNat c) ∧ x ≠ s ∧ rightB x = true
  | 0, _ => ⟨by simp [mendR], fun x => by simp [mendR]⟩
  | i + 1, hi => by
    obtain ⟨h1, h2⟩ := mendR_inv s h12 i (by omega)
    obtain ⟨a, b⟩ := mendR_inv_in s h12 i (by omega) (mendR s i) h1 h2 75 (by omega)
    refine ⟨a, fun x => ?_⟩
    show x ∈ (List.range' 48 75).foldl (stepR s i) (mendR s i) ↔ _
    rw [b x, h2 x]
    constructor
    · rintro (⟨j, hj, h⟩ | h)
      · exact ⟨j, by omega, h⟩
      · exact ⟨i, by omega, h⟩
    · rintro ⟨j, hj, h⟩
      by_cases e : j = i
      · subst e; exact Or.inr h
      · exact Or.inl ⟨j, by omega, h⟩
theorem mendR_mem (s : ByteArray) (h12 : s.size = 12) (x : ByteArray) : x ∈ mendR s 12 ↔ x ∈ outerM s 12 := by
  rw [(mendR_inv s h12 12 (by omega)).2, mem_outer]
  constructor
  · rintro ⟨j, hj, c, h1, h2, rfl, h4, h5⟩
    refine ⟨j, hj, UInt8.ofNat c, in_choices _ j ?_, rfl, h4, h5⟩
    have := right_sign h5 j hj
    rw [cand_sgn s j _ (by omega) j (by omega), if_pos rfl] at this
    exact this
  · rintro ⟨j, hj, c, h1, rfl, h4, h5⟩
    have := of_choices c j h1
    exact ⟨j, hj, c.toNat, by omega, by omega, by simp, h4, h5⟩
theorem mendL_eq (s : ByteArray) (h12 : s.size = 12) : mendL s = mendR s 12 := by
  unfold mendL
  rw [mendLL_eq s ((mendR s 12).map bl) (List.pairwise_map.2 (mendR_inv s h12 12 (by omega)).1) (fun x => by
    rw [List.mem_map]
    exact exists_congr fun t => and_congr_left fun _ => mendR_mem s h12 t), List.map_map]
  conv => rhs; rw [← List.map_id (mendR s 12)]
  exact List.map_congr_left fun t _ => rfl
theorem mend_mem (s : ByteArray) (h12 : s.size = 12) (x : ByteArray) : x ∈ mendL s ↔ ∃ i < 12, ∃ c ∈ bl (chB i), x = candM s i c ∧ x ≠ s ∧ rightB x = true := by
  rw [mendL_eq s h12, mendR_mem s h12, mem_outer]
/-- A right mark mends to nothing. -/
theorem mend_right {s : ByteArray} (h : rightB s = true) : mendL s = [] := by
  refine List.eq_nil_iff_forall_not_mem.2 fun x hx => ?_
  obtain ⟨i, hi, c, _, rfl, h4, h5⟩ := (mend_mem s (right_size h) x).1 hx
  exact h4 (cand_right h i hi c h5)
theorem refMend_f (s : ByteArray) : supercargoref03_Mend.f 1925 s = some (if s.size = 12 then mendL s else []) := by
  unfold supercargoref03_Mend.f
  simp only [Option.bind_some]
  by_cases h : s.size = 12
  · rw [if_pos (by omega), if_pos h, mendL_eq s h]
    exact mendR_outer s h 12 0 (by omega)
  · rw [if_neg (by omega), if_neg h]
theorem mendL_length (s : ByteArray) (h12 : s.size = 12) : (mendL s).length ≤ 900 := by
  rw [mendL_eq s h12]
  have := mendR_length s 12
  omega
theorem same_l (l : List ByteArray) (hl : l.length ≤ 2000) (d : Nat) : ∀ (k i : Nat), i + d = l.length → d < k → supercargoref03_Same.l0 k l l (i : Int) = some true := by
  induction d with
  | zero =>
    intro k i h hk
    obtain ⟨k, rfl⟩ : ∃ m, k = m + 1 := ⟨k - 1, by omega⟩
    simp only [supercargoref03_Same.l0]
    rw [if_neg (by omega)]
  | succ d ih =>
    intro k i h hk
    obtain ⟨k, rfl⟩ : ∃ m, k = m + 1 := ⟨k - 1, by omega⟩
    simp only [supercargoref03_Same.l0]
    rw [if_pos (by omega), if_pos (by omega), if_pos (by omega), if_pos trivial, w64 (by omega) (by omega), show ((i : Int) + 1) = ((i + 1 : Nat) : Int) by omega]
    exact ih k (i + 1) (by omega) (by omega)
theorem same_f (l : List ByteArray) (hl : l.length ≤ 2000) (k : Nat) (hk : l.length < k) : supercargoref03_Same.f k l l = some true := by
  unfold supercargoref03_Same.f
  rw [if_pos rfl]
  exact same_l l hl l.length k 0 (by omega) hk
end Go.Proofs.YtkfcllapmkeihaaDoor.Ref
