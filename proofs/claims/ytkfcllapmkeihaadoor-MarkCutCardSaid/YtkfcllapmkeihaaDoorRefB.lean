/- What mark.Make makes: it is right, tells its owner and its number; chapter 3's reference makes the same. Plain laws: no program. -/
import Derived.Test.YtkfcllapmkeihaaDoorRefA
namespace Go.Proofs.YtkfcllapmkeihaaDoor.Ref
open Go.RowKit Go.Proofs.YtkfcllapmkeihaaDoor.Ext Go.Proofs.YtkfcllapmkeihaaDoor.X Go.Proofs.YtkfcllapmkeihaaDoorW.PrintWords

/-! ### digits -/
def numL (l : List UInt8) : Int := l.foldl (fun n c => n * 10 + valI c) 0
theorem numL_snoc (l : List UInt8) (c : UInt8) : numL (l ++ [c]) = numL l * 10 + valI c := by simp [numL]
theorem take_sgn (s : ByteArray) (k : Nat) (h : k < s.size) : s.data.toList.take (k + 1) = s.data.toList.take k ++ [sgn s k] := by
  rw [take_next s k h, sgn_at s k h]
theorem numK_list (s : ByteArray) (k : Nat) (h : k ≤ s.size) : numK s k = numL (s.data.toList.take k) := by
  induction k with
  | zero => rfl
  | succ k ih =>
    simp only [numK]
    rw [ih (by omega), take_sgn s k (by omega), numL_snoc]
theorem val_digit (d : Nat) (h : d < 10) : valI (UInt8.ofNat (48 + d)) = d := by
  have e : (UInt8.ofNat (48 + d)).toNat = 48 + d := by rw [UInt8.toNat_ofNat']; omega
  rw [val_dig (dig_of d h), e]
  omega
theorem numL_dec (u : Nat) : numL (Lib.decDigits u) = u := by
  induction u using Nat.strongRecOn with
  | _ u ih =>
    rw [Lib.decDigits]
    split
    · rename_i h
      rw [show ([UInt8.ofNat (48 + u)] : List UInt8) = [] ++ [UInt8.ofNat (48 + u)] from rfl, numL_snoc, val_digit u h]
      simp [numL]
    · rename_i h
      rw [numL_snoc, ih (u / 10) (by omega), val_digit (u % 10) (by omega)]
      omega
theorem foldl_zeros (m : Nat) (l : List UInt8) : numL (List.replicate m 48 ++ l) = numL l := by
  induction m with
  | zero => rfl
  | succ m ih =>
    rw [List.replicate_succ, List.cons_append]
    unfold numL at ih ⊢
    rw [List.foldl_cons]
    have e : (0 : Int) * 10 + valI 48 = 0 := by decide
    rw [e]
    exact ih
theorem numL_pad (n : Int) (h0 : 0 ≤ n) (w : Nat) : numL (padL n w) = n := by
  obtain ⟨u, rfl⟩ := Int.eq_ofNat_of_zero_le h0
  unfold padL
  rw [foldl_zeros, Lib.itoa_nonneg, numL_dec]
theorem numK_pad (n : Int) (h0 : 0 ≤ n) (w : Nat) (h : (Lib.itoa n).length ≤ w) : numK (padB n w) w = n := by
  have hs := pad_size n w h
  rw [numK_list _ _ (by omega), List.take_of_length_le (by rw [size_list]; omega)]
  exact numL_pad n h0 w

/-! ### what is made -/
structure MarkOk (o : ByteArray) (n : Int) : Prop where
  size : o.size = 4
  low : allB isLow o = true
  lo : 0 ≤ n
  hi : n ≤ 999999
theorem make_f {o : ByteArray} {n : Int} (g : MarkOk o n) : mark_Make.f o n = some (makeB o n, 0) := by
  unfold mark_Make.f
  rw [if_pos (by rw [g.size]; omega), if_pos ⟨g.size, g.low⟩, if_pos ⟨g.lo, g.hi⟩]
theorem make_cases (o : ByteArray) (n : Int) (h : o.size ≤ 9223372036854775807) :
    (MarkOk o n ∧ mark_Make.f o n = some (makeB o n, 0)) ∨ (¬ MarkOk o n ∧ ∃ c : Int, c ≠ 0 ∧ mark_Make.f o n = some (⟨#[]⟩, c)) := by
  unfold mark_Make.f
  rw [if_pos h]
  by_cases h1 : o.size = 4 ∧ allB isLow o = true
  · rw [if_pos h1]
    by_cases h2 : 0 ≤ n ∧ n ≤ 999999
    · rw [if_pos h2]; exact .inl ⟨⟨h1.1, h1.2, h2.1, h2.2⟩, rfl⟩
    · rw [if_neg h2]; exact .inr ⟨fun g => h2 ⟨g.lo, g.hi⟩, 3, by decide, rfl⟩
  · rw [if_neg h1]; exact .inr ⟨fun g => h1 ⟨g.size, g.low⟩, 1, by decide, rfl⟩
theorem pad6 {o : ByteArray} {n : Int} (g : MarkOk o n) : (padB n 6).size = 6 := pad_size n 6 (itoa_len n g.lo 5 (by have := g.hi; omega))
theorem makeS_size {o : ByteArray} {n : Int} (g : MarkOk o n) : (makeS o n).size = 10 := by have := pad6 g; have := g.size; simp [makeS]; omega
theorem makeS_good {o : ByteArray} {n : Int} (g : MarkOk o n) : headB (makeS o n) = true := makeS_head o n g.size g.low g.lo g.hi
theorem sum_lo {o : ByteArray} {n : Int} (g : MarkOk o n) : 0 ≤ sumB (makeS o n) := (sumB_range _ (makeS_good g)).1
theorem sum_hi {o : ByteArray} {n : Int} (g : MarkOk o n) : sumB (makeS o n) ≤ 96 := (sumB_range _ (makeS_good g)).2
theorem pad2 {o : ByteArray} {n : Int} (g : MarkOk o n) : (padB (sumB (makeS o n)) 2).size = 2 := pad_size _ 2 (itoa_len _ (sum_lo g) 1 (by have := sum_hi g; omega))
theorem makeB_size {o : ByteArray} {n : Int} (g : MarkOk o n) : (makeB o n).size = 12 := by have := makeS_size g; have := pad2 g; simp [makeB]; omega
theorem makeB_left {o : ByteArray} {n : Int} (g : MarkOk o n) {k : Nat} (hk : k < 10) : sgn (makeB o n) k = sgn (makeS o n) k := by
  have h := makeS_size g
  unfold sgn makeB
  rw [append_list, List.getD_eq_getElem?_getD, List.getD_eq_getElem?_getD, List.getElem?_append_left (by rw [size_list]; omega)]
theorem sumK_congr {s t : ByteArray} (h : ∀ k, k < 10 → sgn s k = sgn t k) (k : Nat) (hk : k ≤ 10) : sumK s k = sumK t k := by
  induction k with
  | zero => rfl
  | succ k ih => simp only [sumK]; rw [ih (by omega), h k (by omega)]
theorem headB_congr {s t : ByteArray} (h : ∀ k, k < 10 → sgn s k = sgn t k) (hs : 10 ≤ s.size) (ht : 10 ≤ t.size) : headB s = headB t := by
  rw [Bool.eq_iff_iff, headB_iff, headB_iff]
  exact ⟨fun g => ⟨ht, fun j hj => by have := g.2 j hj; unfold hd at this ⊢; rwa [← h j hj]⟩, fun g => ⟨hs, fun j hj => by have := g.2 j hj; unfold hd at this ⊢; rwa [h j hj]⟩⟩
theorem sumB_congr {s t : ByteArray} (h : ∀ k, k < 10 → sgn s k = sgn t k) (hs : 10 ≤ s.size) (ht : 10 ≤ t.size) : sumB s = sumB t := by
  unfold sumB
  rw [headB_congr h hs ht, sumK_congr h 10 (Nat.le_refl _)]
theorem sum_make {o : ByteArray} {n : Int} (g : MarkOk o n) : sumB (makeB o n) = sumB (makeS o n) := by
  have h1 := makeB_size g
  have h2 := makeS_size g
  exact sumB_congr (fun k hk => makeB_left g hk) (by omega) (by omega)
theorem make_check {o : ByteArray} {n : Int} (g : MarkOk o n) : (makeB o n).extract 10 12 = padB (sumB (makeS o n)) 2 := by
  have h1 := makeS_size g
  have h2 := pad2 g
  exact extract_right _ _ 10 12 h1.symm (by omega)
theorem make_right {o : ByteArray} {n : Int} (g : MarkOk o n) : rightB (makeB o n) = true := by
  unfold rightB
  rw [makeB_size g, make_check g, pad_digs _ (sum_lo g), sum_make g, numK_pad _ (sum_lo g) 2 (itoa_len _ (sum_lo g) 1 (by have := sum_hi g; omega))]
  simp
theorem make_owner {o : ByteArray} {n : Int} (g : MarkOk o n) : (makeB o n).extract 0 4 = o := by
  apply bytes_ext
  unfold makeB makeS
  rw [extract_list, append_list, append_list, List.drop_zero, List.append_assoc, List.take_append_of_le_length (by rw [size_list, g.size]; omega), List.take_of_length_le (by rw [size_list, g.size]; omega)]
theorem make_number {o : ByteArray} {n : Int} (g : MarkOk o n) : (makeB o n).extract 4 10 = padB n 6 := by
  have h6 := pad6 g
  have h4 := g.size
  apply bytes_ext
  unfold makeB makeS
  rw [extract_list, append_list, append_list, List.take_append_of_le_length (by rw [List.length_append, size_list, size_list]; omega), List.take_of_length_le (by rw [List.length_append, size_list, size_list]; omega), List.drop_append_of_le_length (by rw [size_list]; omega), List.drop_of_length_le (by rw [size_list]; omega), List.nil_append]
theorem right_size {s : ByteArray} (h : rightB s = true) : s.size = 12 := ((rightB_iff s).1 h).1
theorem right_digits {s : ByteArray} (h : rightB s = true) : allB isDig (s.extract 4 10) = true := by
  have hh := right_head h
  unfold headB at hh
  simp only [Bool.and_eq_true] at hh
  exact hh.2.2
/-- The number that a right mark tells. -/
def numR (s : ByteArray) : Int := numK (s.extract 4 10) 6
theorem num_make {o : ByteArray} {n : Int} (g : MarkOk o n) : numR (makeB o n) = n := by
  unfold numR
  rw [make_number g]
  exact numK_pad n g.lo 6 (itoa_len n g.lo 5 (by have := g.hi; omega))
theorem make_inj {o p : ByteArray} {n m : Int} (g : MarkOk o n) (h : MarkOk p m) (e : makeB o n = makeB p m) : o = p ∧ n = m :=
  ⟨by rw [← make_owner g, ← make_owner h, e], by rw [← num_make g, ← num_make h, e]⟩

/-! ### the program's Owner and Number -/
theorem owner_f (s : ByteArray) (hs : s.size ≤ 9223372036854775807) : mark_Owner.f s = some (if rightB s = true then s.extract 0 4 else ⟨#[]⟩) := by
  unfold mark_Owner.f mark_Right.f
  rw [if_pos hs]
  simp only [Option.bind_some]
  by_cases h : rightB s = true
  · have := right_size h
    rw [if_pos h, if_pos h, if_pos (by decide), if_pos (by omega)]
  · rw [if_neg h, if_neg h]
theorem value_f (c : UInt8) (h : isDig c = true) : mark_value.f (c.toNat : Int) = some (valI c) := by
  have h' : 48 ≤ c.toNat ∧ c.toNat ≤ 57 := by simpa [isDig] using h
  unfold mark_value.f mark_lower.f
  rw [if_neg (by omega)]
  simp only [Option.bind_some]
  rw [if_neg (by simp), val_dig h]
  congr 1
  omega
theorem number_l (s : ByteArray) (hd : allB isDig s = true) (h6 : s.size ≤ 6) (d : Nat) : ∀ (k i : Nat), i + d = s.size → d < k →
    mark_number.l0 k s (numK s i) (s.size : Int) (i : Int) = some (numK s s.size) := by
  induction d with
  | zero =>
    intro k i hi hk
    obtain ⟨k, rfl⟩ : ∃ m, k = m + 1 := ⟨k - 1, by omega⟩
    obtain rfl : i = s.size := by omega
    simp only [mark_number.l0]
    rw [if_neg (by omega)]
  | succ d ih =>
    intro k i hi hk
    obtain ⟨k, rfl⟩ : ∃ m, k = m + 1 := ⟨k - 1, by omega⟩
    have hw : wrap64 ((i : Int) + 1) = ((i + 1 : Nat) : Int) := by rw [w64 (by omega) (by omega)]; omega
    have hr := numK_small s hd h6 i (by omega)
    have hv := valI_range (sgn s i)
    simp only [mark_number.l0]
    rw [if_pos (by omega), if_pos (by omega), if_pos (by omega), bt_sgn, value_f _ (all_sgn hd (by omega)), hw]
    simp only [Option.bind_some]
    rw [w64 (x := numK s i * 10) (by omega) (by omega), w64 (by omega) (by omega)]
    exact ih k (i + 1) (by omega) (by omega)
theorem number_f (s : ByteArray) (hd : allB isDig s = true) (h6 : s.size ≤ 6) (k : Nat) (hk : 7 ≤ k) : mark_number.f k s = some (numK s s.size) := by
  unfold mark_number.f
  exact number_l s hd h6 s.size k 0 (by omega) (by omega)
theorem num_f (s : ByteArray) (hs : s.size ≤ 9223372036854775807) (k : Nat) (hk : 7 ≤ k) : mark_Number.f k s = some (if rightB s = true then numR s else -1) := by
  unfold mark_Number.f mark_Right.f
  rw [if_pos hs]
  simp only [Option.bind_some]
  by_cases h : rightB s = true
  · have h12 := right_size h
    have hz : (s.extract 4 10).size = 6 := by simp; omega
    rw [if_pos h, if_pos h, if_pos (by decide), if_pos (by omega), number_f _ (right_digits h) (by omega) k hk]
    simp only [Option.bind_some]
    rw [hz]
    rfl
  · rw [if_neg h, if_neg h]

/-! ### the reference's Number and Make -/
theorem refNumber_l (s : ByteArray) (h : rightB s = true) (d : Nat) : ∀ (k i : Nat), i + d = 6 → d < k →
    supercargoref03_Number.l0 k s (numK (s.extract 4 10) i) ((4 + i : Nat) : Int) = some (numR s) := by
  have h12 := right_size h
  have hz : (s.extract 4 10).size = 6 := by simp; omega
  have hd := right_digits h
  induction d with
  | zero =>
    intro k i hi hk
    obtain ⟨k, rfl⟩ : ∃ m, k = m + 1 := ⟨k - 1, by omega⟩
    obtain rfl : i = 6 := by omega
    simp only [supercargoref03_Number.l0]
    rw [if_neg (by omega)]
    rfl
  | succ d ih =>
    intro k i hi hk
    obtain ⟨k, rfl⟩ : ∃ m, k = m + 1 := ⟨k - 1, by omega⟩
    have hw : wrap64 (((4 + i : Nat) : Int) + 1) = ((4 + (i + 1) : Nat) : Int) := by rw [w64 (by omega) (by omega)]; omega
    have hr := numK_small _ hd (by omega) i (by omega)
    have hsg := all_sgn hd (k := i) (by omega)
    have hat : sgn (s.extract 4 10) i = sgn s (4 + i) := sgn_extract s 4 10 i (by omega) (by omega)
    have hb := toNat_lt (sgn s (4 + i))
    simp only [supercargoref03_Number.l0]
    rw [if_pos (by omega), if_pos (by omega), if_pos (by omega), bt_sgn, hw]
    rw [w64 (x := numK (s.extract 4 10) i * 10) (by omega) (by omega), w64 (x := ((sgn s (4 + i)).toNat : Int)) (by omega) (by omega), w64 (x := numK (s.extract 4 10) i * 10 + ((sgn s (4 + i)).toNat : Int)) (by omega) (by omega), w64 (by omega) (by omega)]
    have e : numK (s.extract 4 10) i * 10 + ((sgn s (4 + i)).toNat : Int) - 48 = numK (s.extract 4 10) (i + 1) := by
      simp only [numK]
      rw [val_dig hsg, hat]
      omega
    rw [e]
    exact ih k (i + 1) (by omega) (by omega)
theorem refNumber_f (s : ByteArray) (h : rightB s = true) (k : Nat) (hk : 7 ≤ k) : supercargoref03_Number.f k s = some (numR s) := by
  unfold supercargoref03_Number.f
  exact refNumber_l s h 6 k 0 (by omega) (by omega)

/-- The last i digits of a number. -/
def lastD : Nat → Nat → List UInt8
  | 0, _ => []
  | i + 1, u => UInt8.ofNat (48 + u / 10 ^ i % 10) :: lastD i u
theorem lastD_length (i u : Nat) : (lastD i u).length = i := by
  induction i with
  | zero => rfl
  | succ i ih => simp [lastD, ih]
theorem lastD_snoc (i u : Nat) : lastD (i + 1) u = lastD i (u / 10) ++ [UInt8.ofNat (48 + u % 10)] := by
  induction i with
  | zero => simp [lastD]
  | succ i ih =>
    rw [lastD, ih, lastD, List.cons_append, Nat.div_div_eq_div_mul, Nat.pow_succ, Nat.mul_comm]
theorem lastD_zero (i : Nat) : lastD i 0 = List.replicate i 48 := by
  induction i with
  | zero => rfl
  | succ i ih => simp [lastD, ih, List.replicate_succ]
theorem lastD_pad (w : Nat) : ∀ u, u < 10 ^ w → 1 ≤ w → lastD w u = List.replicate (w - (Lib.decDigits u).length) 48 ++ Lib.decDigits u := by
  induction w with
  | zero => intro u _ h; omega
  | succ w ih =>
    intro u hu _
    rw [lastD_snoc, Lib.decDigits]
    by_cases h : u < 10
    · rw [dif_pos h, show u / 10 = 0 by omega, lastD_zero, Nat.mod_eq_of_lt h]
      simp
    · rw [dif_neg h]
      have hw : 1 ≤ w := by
        rcases Nat.eq_zero_or_pos w with h0 | h0
        · subst h0; omega
        · exact h0
      rw [ih (u / 10) (by rw [Nat.pow_succ] at hu; omega) hw, List.append_assoc, List.length_append]
      simp
theorem pad_lastD (u w : Nat) (h : u < 10 ^ w) (hw : 1 ≤ w) : padL (u : Int) w = lastD w u := by
  unfold padL
  rw [Lib.itoa_nonneg, lastD_pad w u h hw]
theorem str_one (d : Nat) (h : d < 10) : (strOfNums [wrap64 (48 + (d : Int)) % 256]).data.toList = [UInt8.ofNat (48 + d)] := by
  rw [strOfNums_data, w64 (by omega) (by omega)]
  simp only [List.map_cons, List.map_nil]
  congr 2
  omega
theorem refMake_l (o : ByteArray) (u : Nat) (hu : u ≤ 999999) (ho : o.size = 4) (hh : headB (o ++ ⟨(lastD 6 u).toArray⟩) = true) (d : Nat) : ∀ (k i : Nat), i + d = 6 → d + 12 ≤ k →
    supercargoref03_Make.l0 k o ((u / 10 ^ i : Nat) : Int) ⟨(lastD i u).toArray⟩ (i : Int) = some (o ++ ⟨(lastD 6 u).toArray⟩ ++ ⟨(lastD 2 (sumB (o ++ ⟨(lastD 6 u).toArray⟩)).toNat).toArray⟩) := by
  induction d with
  | zero =>
    intro k i hi hk
    obtain ⟨k, rfl⟩ : ∃ m, k = m + 1 := ⟨k - 1, by omega⟩
    obtain rfl : i = 6 := by omega
    have hr := sumB_range _ hh
    have hz : ByteArray.size ⟨(lastD 6 u).toArray⟩ = 6 := by simp [ByteArray.size, lastD_length]
    simp only [supercargoref03_Make.l0]
    rw [if_neg (by omega), if_pos (by omega), sum_f _ k (by omega)]
    simp only [Option.bind_some]
    obtain ⟨S, hS⟩ : ∃ S, S = o ++ ⟨(lastD 6 u).toArray⟩ := ⟨_, rfl⟩
    rw [← hS] at hr ⊢
    have hSz : S.size = 10 := by rw [hS]; simp [ho, hz]
    obtain ⟨c, hc⟩ := Int.eq_ofNat_of_zero_le hr.1
    have hc2 : c ≤ 96 := by have := hr.2; omega
    rw [hc]
    have e1 : wrap64 (Int.tdiv (c : Int) 10) = ((c / 10 : Nat) : Int) := by rw [Int.tdiv_eq_ediv_of_nonneg (by omega), w64 (by omega) (by omega)]; omega
    have e2 : Int.tmod (c : Int) 10 = ((c % 10 : Nat) : Int) := by rw [Int.tmod_eq_emod_of_nonneg (by omega)]; omega
    rw [e1, e2, if_pos (by rw [strOfNums_size, hSz]; simp)]
    congr 1
    apply bytes_ext
    rw [append_list, append_list, strOfNums_data, w64 (by omega) (by omega), w64 (by omega) (by omega)]
    congr 1
    simp only [List.map_cons, List.map_nil, lastD, Nat.pow_one, Nat.pow_zero, Nat.div_one, Int.toNat_natCast]
    have h1 : ((48 + ((c / 10 : Nat) : Int)) % 256).toNat = 48 + c / 10 % 10 := by omega
    have h2 : ((48 + ((c % 10 : Nat) : Int)) % 256).toNat = 48 + c % 10 := by omega
    rw [h1, h2]
  | succ d ih =>
    intro k i hi hk
    obtain ⟨k, rfl⟩ : ∃ m, k = m + 1 := ⟨k - 1, by omega⟩
    have hw : wrap64 ((i : Int) + 1) = ((i + 1 : Nat) : Int) := by rw [w64 (by omega) (by omega)]; omega
    have hb : u / 10 ^ i % 10 < 10 := Nat.mod_lt _ (by omega)
    have hbig : ∀ v : Nat, ((v : Nat) : Int).tmod 10 = ((v % 10 : Nat) : Int) := fun v => by rw [Int.tmod_eq_emod_of_nonneg (by omega)]; omega
    simp only [supercargoref03_Make.l0]
    rw [if_pos (by omega), hbig, hw]
    simp only [Option.bind_some]
    rw [if_pos (by rw [strOfNums_size]; simp [ByteArray.size, lastD_length]; omega)]
    have e : strOfNums [wrap64 (48 + ((u / 10 ^ i % 10 : Nat) : Int)) % 256] ++ ⟨(lastD i u).toArray⟩ = ⟨(lastD (i + 1) u).toArray⟩ := by
      apply bytes_ext
      rw [append_list, str_one _ hb]
      simp [lastD]
    rw [e]
    have ediv : wrap64 (Int.tdiv ((u / 10 ^ i : Nat) : Int) 10) = ((u / 10 ^ (i + 1) : Nat) : Int) := by
      rw [Nat.pow_succ, ← Nat.div_div_eq_div_mul]
      have : u / 10 ^ i ≤ u := Nat.div_le_self _ _
      generalize u / 10 ^ i = v at *
      rw [Int.tdiv_eq_ediv_of_nonneg (by omega)]
      rw [w64 (by omega) (by omega)]
      omega
    rw [ediv]
    exact ih k (i + 1) (by omega) (by omega)
theorem refMake_f {o : ByteArray} {n : Int} (g : MarkOk o n) (k : Nat) (hk : 18 ≤ k) : supercargoref03_Make.f k o n = some (makeB o n) := by
  obtain ⟨u, rfl⟩ := Int.eq_ofNat_of_zero_le g.lo
  have hu : u ≤ 999999 := by have := g.hi; omega
  have e6 : (⟨(lastD 6 u).toArray⟩ : ByteArray) = padB (u : Int) 6 := by
    unfold padB
    rw [pad_lastD u 6 (by omega) (by omega)]
  have hS := makeS_good g
  have s0 := sum_lo g
  have s1 := sum_hi g
  have h := refMake_l o u hu g.size (by rw [e6]; exact hS) 6 k 0 rfl (by omega)
  rw [e6] at h
  unfold supercargoref03_Make.f
  have e2 : (⟨(lastD 2 (sumB (makeS o (u : Int))).toNat).toArray⟩ : ByteArray) = padB (sumB (makeS o (u : Int))) 2 := by
    unfold padB
    rw [← pad_lastD _ 2 (by omega) (by omega)]
    congr 3
    omega
  rw [Nat.pow_zero, Nat.div_one] at h
  refine h.trans ?_
  unfold makeB
  rw [← e2]
  rfl

/-! ### the layer is awake -/
theorem awake_f : supercargolaw03_awake.f = some true := by
  have g : MarkOk ⟨#[97, 97, 97, 97]⟩ 1 := ⟨rfl, by decide, by decide, by decide⟩
  unfold supercargolaw03_awake.f
  rw [make_f g]
  simp only [Option.bind_some]
  have hs : sumB ⟨#[97, 97, 97, 97, 48, 48, 48, 48, 48, 49]⟩ = 20 := by decide
  have hS : makeS ⟨#[97, 97, 97, 97]⟩ 1 = ⟨#[97, 97, 97, 97, 48, 48, 48, 48, 48, 49]⟩ := by
    apply bytes_ext
    unfold makeS padB
    rw [append_list]
    have := pad_lastD 1 6 (by omega) (by omega)
    rw [show ((1 : Nat) : Int) = 1 from rfl] at this
    rw [this]
    decide
  have hB : makeB ⟨#[97, 97, 97, 97]⟩ 1 = ⟨#[97, 97, 97, 97, 48, 48, 48, 48, 48, 49, 50, 48]⟩ := by
    unfold makeB
    rw [hS, hs]
    apply bytes_ext
    unfold padB
    rw [append_list]
    have := pad_lastD 20 2 (by omega) (by omega)
    rw [show ((20 : Nat) : Int) = 20 from rfl] at this
    rw [this]
    decide
  have hr := make_right g
  rw [hB] at hr ⊢
  unfold mark_Sum.f mark_Right.f mark_Name.f
  rw [if_pos (show ByteArray.size ⟨#[97, 97, 97, 97, 48, 48, 48, 48, 48, 49]⟩ ≤ 9223372036854775807 by decide)]
  simp only [Option.bind_some]
  rw [hs, if_pos rfl, ByteArray.toList_eq, if_pos rfl, if_pos trivial, if_pos (show ByteArray.size ⟨#[97, 97, 97, 97, 48, 48, 48, 48, 48, 49, 50, 48]⟩ ≤ 9223372036854775807 by decide)]
  simp only [Option.bind_some]
  rw [hr, if_pos rfl]
  decide
end Go.Proofs.YtkfcllapmkeihaaDoor.Ref
