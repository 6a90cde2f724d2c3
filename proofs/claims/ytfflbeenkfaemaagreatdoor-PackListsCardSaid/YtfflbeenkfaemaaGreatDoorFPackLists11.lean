/- One of the texts of this claim: RefL, RefG, Lists, OpenP. -/
import Derived.Lib.ItoaLen
import Derived.Lib.ItoaMem
import Derived.Test.YtfflbeenkfaemaaGreatDoorCards
import Derived.Test.YtfflbeenkfaemaaGreatDoorTie
import Derived.WalkKit
import Derived.ProofKit
import Derived.OpenShut
import Derived.ShutString
import Derived.ChangeOld
import Derived.Below
import Derived.Carry
import Derived.SliceStrings
import Derived.Deep.Slices
import Derived.SizedLaws
import Derived.Deep.DeepHandedRow
import Derived.Deep.DeepWitnessRowRef
import Derived.Lib.LaidTab
import Derived.Lib.AppendIntMem
import Derived.Stop.LaidErr
import Derived.Test.YtfflbeenkfaemaaGreatDoorFPackLists10
namespace Go.Proofs.YtfflbeenkfaemaaGreatDoor.Ref
open Go.RowKit Go.Proofs.YtfflbeenkfaemaaGreatDoor.Ext Go.Proofs.YtfflbeenkfaemaaGreatDoor.X Go.Proofs.YtfflbeenkfaemaaGreatDoorW.PrintWords
theorem w64' {x : Int} (h : -9223372036854775808 ≤ x) (h2 : x ≤ 9223372036854775807) : wrap64 x = x := by unfold wrap64; omega
def decB (u : Nat) : ByteArray := ⟨(Lib.decDigits u).toArray⟩
theorem dig1 (d : Nat) (h : d < 10) (n : Int) (e : n = 48 + (d : Int)) : strOfNums [wrap64 n % 256] = ⟨#[UInt8.ofNat (48 + d)]⟩ := by
  subst e
  rw [w64' (by omega) (by omega)]
  have e : ((48 + (d : Int)) % 256) = ((48 + d : Nat) : Int) := by omega
  rw [e]
  rfl
theorem decB_small {u : Nat} (h : u < 10) : decB u = ⟨#[UInt8.ofNat (48 + u)]⟩ := by unfold decB; rw [Lib.decDigits_one h]
theorem decB_big {u : Nat} (h : ¬ u < 10) : decB u = decB (u / 10) ++ ⟨#[UInt8.ofNat (48 + u % 10)]⟩ := by
  unfold decB
  conv => lhs; rw [Lib.decDigits, dif_neg h]
  apply ByteArray.ext
  simp
theorem size1 (c : UInt8) (x : ByteArray) : ((⟨#[c]⟩ : ByteArray) ++ x).size = 1 + x.size := by rw [ByteArray.size_append]; rfl
theorem digits_l1 (e : Nat) : ∀ (k u : Nat) (acc : ByteArray), u < 10 ^ (e + 1) → u ≤ 9223372036854775807 → e < k → acc.size + e ≤ 1000 →
    supercargoref12_digits.l1 k (u : Int) (⟨#[UInt8.ofNat (48 + u % 10)]⟩ ++ acc) = some (decB u ++ acc) := by
  induction e with
  | zero =>
    intro k u acc hu hb hk ha
    obtain ⟨k, rfl⟩ : ∃ m, k = m + 1 := ⟨k - 1, by omega⟩
    have h10 : u < 10 := by simpa using hu
    simp only [supercargoref12_digits.l1]
    rw [if_neg (by omega), decB_small h10, Nat.mod_eq_of_lt h10]
  | succ e ih =>
    intro k u acc hu hb hk ha
    obtain ⟨k, rfl⟩ : ∃ m, k = m + 1 := ⟨k - 1, by omega⟩
    simp only [supercargoref12_digits.l1]
    by_cases h10 : u < 10
    · rw [if_neg (by omega), decB_small h10, Nat.mod_eq_of_lt h10]
    · have h2 : Int.tdiv (u : Int) 10 = ((u / 10 : Nat) : Int) := by rw [Int.tdiv_eq_ediv_of_nonneg (by omega)]; omega
      have h1 : Int.tmod ((u / 10 : Nat) : Int) 10 = ((u / 10 % 10 : Nat) : Int) := by rw [Int.tmod_eq_emod_of_nonneg (by omega)]; omega
      rw [if_pos (by omega), h2, w64' (x := ((u / 10 : Nat) : Int)) (by omega) (by omega), h1, Option.bind_some, dig1 (u / 10 % 10) (by omega) _ rfl]
      show (if 1 + ((⟨#[UInt8.ofNat (48 + u % 10)]⟩ : ByteArray) ++ acc).size ≤ _ then _ else _) = _
      have hp : 10 ^ (e + 1 + 1) = 10 ^ (e + 1) * 10 := Nat.pow_succ ..
      rw [if_pos (by rw [size1]; omega), ih k (u / 10) _ (by omega) (by omega) (by omega) (by rw [size1]; omega), decB_big h10, ByteArray.append_assoc]
theorem digits_l0 (e : Nat) : ∀ (k u : Nat) (acc : ByteArray), u < 10 ^ (e + 1) → u ≤ 9223372036854775808 → e < k → acc.size + e ≤ 1000 →
    supercargoref12_digits.l0 k (-(u : Int)) acc = some (⟨#[45]⟩ ++ decB u ++ acc) := by
  induction e with
  | zero =>
    intro k u acc hu hb hk ha
    obtain ⟨k, rfl⟩ : ∃ m, k = m + 1 := ⟨k - 1, by omega⟩
    have h10 : u < 10 := by simpa using hu
    have h1 : Int.tmod (-(u : Int)) 10 = -((u : Nat) : Int) := by rw [Int.neg_tmod, Int.tmod_eq_emod_of_nonneg (by omega)]; omega
    simp only [supercargoref12_digits.l0]
    rw [if_neg (by omega), Option.bind_some, h1, dig1 u h10 _ (by omega)]
    show (if 1 + 1 ≤ _ then (if 1 + 1 + acc.size ≤ _ then _ else _) else _) = _
    rw [if_pos (by omega), if_pos (by omega), decB_small h10]
  | succ e ih =>
    intro k u acc hu hb hk ha
    obtain ⟨k, rfl⟩ : ∃ m, k = m + 1 := ⟨k - 1, by omega⟩
    have h1 : Int.tmod (-(u : Int)) 10 = -((u % 10 : Nat) : Int) := by rw [Int.neg_tmod, Int.tmod_eq_emod_of_nonneg (by omega)]; omega
    have h2 : Int.tdiv (-(u : Int)) 10 = -((u / 10 : Nat) : Int) := by rw [Int.neg_tdiv, Int.tdiv_eq_ediv_of_nonneg (by omega)]; omega
    simp only [supercargoref12_digits.l0]
    by_cases h10 : u < 10
    · rw [if_neg (by omega), Option.bind_some, h1, dig1 u h10 _ (by rw [Nat.mod_eq_of_lt h10]; omega)]
      show (if 1 + 1 ≤ _ then (if 1 + 1 + acc.size ≤ _ then _ else _) else _) = _
      rw [if_pos (by omega), if_pos (by omega), decB_small h10]
    · rw [if_pos (by omega), Option.bind_some, h1, dig1 (u % 10) (by omega) _ (by omega)]
      show (if 1 + acc.size ≤ _ then _ else _) = _
      have hp : 10 ^ (e + 1 + 1) = 10 ^ (e + 1) * 10 := Nat.pow_succ ..
      rw [if_pos (by omega), h2, w64' (x := -((u / 10 : Nat) : Int)) (by omega) (by omega), ih k (u / 10) _ (by omega) (by omega) (by omega) (by rw [size1]; omega), decB_big h10]
      congr 1
      simp only [ByteArray.append_assoc]
theorem itoaB_nn (u : Nat) : itoaB (u : Int) = decB u := by unfold itoaB decB; rw [Lib.itoa_nonneg]
theorem itoaB_neg (u : Nat) (h : 1 ≤ u) : itoaB (-(u : Int)) = ⟨#[45]⟩ ++ decB u := by
  unfold itoaB decB
  rw [Lib.itoa_neg u h]
  apply ByteArray.ext
  simp
theorem app_nil (x : ByteArray) : x ++ (⟨#[]⟩ : ByteArray) = x := by apply ByteArray.ext; simp
theorem nil_app (x : ByteArray) : (⟨#[]⟩ : ByteArray) ++ x = x := by apply ByteArray.ext; simp
theorem digits_f (n : Int) (h0 : -9223372036854775808 ≤ n) (h1 : n ≤ 9223372036854775807) (k : Nat) (hk : 20 ≤ k) : supercargoref12_digits.f k n = some (itoaB n) := by
  unfold supercargoref12_digits.f
  by_cases hn : n < 0
  · obtain ⟨u, rfl⟩ : ∃ u : Nat, n = -(u : Int) := ⟨(-n).toNat, by omega⟩
    rw [if_pos hn, digits_l0 18 k u ⟨#[]⟩ (by omega) (by omega) (by omega) (by show 0 + 18 ≤ 1000; omega), itoaB_neg u (by omega), app_nil]
  · obtain ⟨u, rfl⟩ : ∃ u : Nat, n = u := ⟨n.toNat, by omega⟩
    have h1' : Int.tmod (u : Int) 10 = ((u % 10 : Nat) : Int) := by rw [Int.tmod_eq_emod_of_nonneg (by omega)]; omega
    rw [if_neg hn, h1', dig1 (u % 10) (by omega) _ rfl, ← app_nil ⟨#[UInt8.ofNat (48 + u % 10)]⟩, digits_l1 18 k u ⟨#[]⟩ (by omega) (by omega) (by omega) (by show 0 + 18 ≤ 1000; omega), itoaB_nn, app_nil]
/-! ### lines -/
def catB : List ByteArray → ByteArray
  | [] => ⟨#[]⟩
  | x :: xs => x ++ catB xs
def lotS (x : X.S55) : ByteArray := ⟨#[32]⟩ ++ (x.f0 ++ (⟨#[58]⟩ ++ itoaB x.f1))
def lotsS (l : List X.S55) : ByteArray := catB (l.map lotS) ++ ⟨#[10]⟩
/-- Lots whose names are short and whose counts are the machine's. -/
def Fine (l : List X.S55) : Prop := ∀ x ∈ l, x.f0.size ≤ 60 ∧ -9223372036854775808 ≤ x.f1 ∧ x.f1 ≤ 9223372036854775807
theorem itoaB_size (n : Int) (h0 : -9223372036854775808 ≤ n) (h1 : n ≤ 9223372036854775807) : (itoaB n).size ≤ 21 := by
  have := Lib.itoa_length_le n h0 h1
  show (Lib.itoa n).toArray.size ≤ 21
  simpa using this
theorem lotS_size {x : X.S55} (h : x.f0.size ≤ 60 ∧ -9223372036854775808 ≤ x.f1 ∧ x.f1 ≤ 9223372036854775807) : (lotS x).size ≤ 100 := by
  have := itoaB_size x.f1 h.2.1 h.2.2
  unfold lotS
  rw [size1, ByteArray.size_append, size1]
  omega
theorem catB_size (l : List X.S55) (h : Fine l) : (catB (l.map lotS)).size ≤ 100 * l.length := by
  induction l with
  | nil => exact Nat.le_refl _
  | cons x l ih =>
    have h1 := lotS_size (h x List.mem_cons_self)
    have h2 := ih fun y hy => h y (List.mem_cons_of_mem _ hy)
    show (lotS x ++ catB (l.map lotS)).size ≤ _
    rw [ByteArray.size_append, List.length_cons]
    omega
theorem lotsS_size (l : List X.S55) (h : Fine l) : (lotsS l).size ≤ 100 * l.length + 1 := by
  unfold lotsS
  rw [ByteArray.size_append]
  have := catB_size l h
  show _ + 1 ≤ _
  omega
theorem drop_lot (l : List X.S55) (i : Nat) (h : i < l.length) : catB ((l.drop i).map lotS) = lotS l[i] ++ catB ((l.drop (i + 1)).map lotS) := by
  rw [List.drop_eq_getElem_cons h]
  rfl
theorem line_l (l : List X.S55) (hl : l.length ≤ 1000000) (hf : Fine l) (d : Nat) : ∀ (k i : Nat) (acc : ByteArray), i + d = l.length → d < k → acc.size + 100 * d ≤ 1000000000 →
    pack_line.l0 k acc l (l.length : Int) (i : Int) = some (acc ++ (catB ((l.drop i).map lotS) ++ ⟨#[10]⟩)) := by
  induction d with
  | zero =>
    intro k i acc hi hk ha
    obtain ⟨k, rfl⟩ : ∃ m, k = m + 1 := ⟨k - 1, by omega⟩
    simp only [pack_line.l0]
    rw [if_neg (by omega), if_pos (by omega), List.drop_eq_nil_of_le (by omega), List.map_nil]
    show _ = some (acc ++ (⟨#[]⟩ ++ ⟨#[10]⟩))
    rw [nil_app]
  | succ d ih =>
    intro k i acc hi hk ha
    obtain ⟨k, rfl⟩ : ∃ m, k = m + 1 := ⟨k - 1, by omega⟩
    have hlt : i < l.length := by omega
    have hx := hf l[i] (List.getElem_mem hlt)
    have hs := itoaB_size _ hx.2.1 hx.2.2
    have hz := lotS_size hx
    simp only [pack_line.l0]
    rw [rd55 l i hlt]
    have hI : strconv_Itoa.f l[i].f1 = some (itoaB l[i].f1) := by unfold strconv_Itoa.f; rw [if_pos hx.2]
    rw [if_pos (by omega), if_pos (by omega), if_pos (by omega), if_pos (by omega), if_pos (by omega), hI, Option.bind_some, if_pos (by omega), if_pos (by omega), wn hlt (by omega)]
    have e : ((((⟨#[32]⟩ : ByteArray) ++ l[i].f0) ++ (⟨#[58]⟩ : ByteArray)) ++ itoaB l[i].f1) = lotS l[i] := by
      unfold lotS
      simp only [ByteArray.append_assoc]
    rw [e, ih k (i + 1) _ (by omega) (by omega) (by rw [ByteArray.size_append]; omega), drop_lot l i hlt]
    simp only [ByteArray.append_assoc]
theorem line_f (h : ByteArray) (l : List X.S55) (hl : l.length ≤ 1000000) (hf : Fine l) (hh : h.size ≤ 1000000) (k : Nat) (hk : l.length < k) : pack_line.f k h l = some (h ++ lotsS l) := by
  unfold pack_line.f
  rw [show (0 : Int) = ((0 : Nat) : Int) from rfl, line_l l hl hf l.length k 0 h (by omega) hk (by omega)]
  rfl
theorem lots_l (l : List X.S55) (hl : l.length ≤ 1000000) (hf : Fine l) (d : Nat) : ∀ (k i : Nat) (acc : ByteArray), i + d = l.length → d + 20 < k → acc.size + 100 * d ≤ 1000000000 →
    supercargoref12_lots.l0 k l acc (i : Int) = some (acc ++ (catB ((l.drop i).map lotS) ++ ⟨#[10]⟩)) := by
  induction d with
  | zero =>
    intro k i acc hi hk ha
    obtain ⟨k, rfl⟩ : ∃ m, k = m + 1 := ⟨k - 1, by omega⟩
    simp only [supercargoref12_lots.l0]
    rw [if_neg (by omega), if_pos (by omega), List.drop_eq_nil_of_le (by omega), List.map_nil]
    show _ = some (acc ++ (⟨#[]⟩ ++ ⟨#[10]⟩))
    rw [nil_app]
  | succ d ih =>
    intro k i acc hi hk ha
    obtain ⟨k, rfl⟩ : ∃ m, k = m + 1 := ⟨k - 1, by omega⟩
    have hlt : i < l.length := by omega
    have hx := hf l[i] (List.getElem_mem hlt)
    have hs := itoaB_size _ hx.2.1 hx.2.2
    have hz := lotS_size hx
    simp only [supercargoref12_lots.l0]
    rw [rd55 l i hlt]
    rw [if_pos (by omega), if_pos (by omega), if_pos (by omega), if_pos (by omega), if_pos (by omega), digits_f _ hx.2.1 hx.2.2 k (by omega), Option.bind_some, if_pos (by omega), wn hlt (by omega)]
    have e : ((((acc ++ (⟨#[32]⟩ : ByteArray)) ++ l[i].f0) ++ (⟨#[58]⟩ : ByteArray)) ++ itoaB l[i].f1) = acc ++ lotS l[i] := by
      unfold lotS
      simp only [ByteArray.append_assoc]
    rw [e, ih k (i + 1) _ (by omega) (by omega) (by rw [ByteArray.size_append]; omega), drop_lot l i hlt]
    simp only [ByteArray.append_assoc]
theorem lots_f (l : List X.S55) (hl : l.length ≤ 1000000) (hf : Fine l) (k : Nat) (hk : l.length + 20 < k) : supercargoref12_lots.f k l = some (lotsS l) := by
  unfold supercargoref12_lots.f
  rw [show (0 : Int) = ((0 : Nat) : Int) from rfl, lots_l l hl hf l.length k 0 ⟨#[]⟩ (by omega) hk (by show 0 + _ ≤ _; omega), nil_app]
  rfl
/-! ### the list -/
def kindS (k : Int) : ByteArray := if k = 0 then ⟨#[115, 109, 97, 108, 108]⟩ else if k = 1 then ⟨#[108, 97, 114, 103, 101]⟩ else ⟨#[111, 116, 104, 101, 114]⟩
theorem kindS_size (k : Int) : (kindS k).size = 5 := by 
  unfold kindS
  split
  · rfl
  · split <;> rfl
def boxS (b : X.S44) : ByteArray := (b.f0 ++ ⟨#[32]⟩ ++ kindS b.f1) ++ lotsS b.f2
def listS (bs : List X.S44) : ByteArray := catB (bs.map boxS) ++ (⟨#[97, 108, 108]⟩ ++ lotsS (joinB (contentL bs)))
/-- Boxes as the law's guard lets them through. -/
structure FineB (bs : List X.S44) : Prop where
  len : bs.length ≤ 20
  lots : ∀ b ∈ bs, b.f2.length ≤ 12 ∧ b.f0.size ≤ 40 ∧ Fine b.f2
theorem content_len (bs : List X.S44) (h : ∀ b ∈ bs, b.f2.length ≤ 12) : (contentL bs).length ≤ 12 * bs.length := by
  induction bs with
  | nil => exact Nat.le_refl _
  | cons b bs ih =>
    have h1 := h b List.mem_cons_self
    have h2 := ih fun y hy => h y (List.mem_cons_of_mem _ hy)
    show (b.f2 ++ contentL bs).length ≤ _
    rw [List.length_append, List.length_cons]
    omega
theorem content_fine (bs : List X.S44) (h : ∀ b ∈ bs, Fine b.f2) : Fine (contentL bs) := fun x hx => by
  obtain ⟨b, hb, hx⟩ := List.mem_flatMap.1 hx
  exact h b hb x hx
theorem foldl_range (s : ByteArray) (l : List X.S55) (n : Int) (h : -9223372036854775808 ≤ n ∧ n ≤ 9223372036854775807) : -9223372036854775808 ≤ l.foldl (addTo s) n ∧ l.foldl (addTo s) n ≤ 9223372036854775807 := by
  induction l generalizing n with
  | nil => exact h
  | cons x l ih =>
    refine ih _ ?_
    unfold addTo
    split
    · unfold wrap64
      omega
    · exact h
theorem joinB_fine (l : List X.S55) (h : Fine l) : Fine (joinB l) := fun z hz => by
  obtain ⟨⟨x, hx, _, e⟩, e2⟩ := (joinB_mem l z).1 hz
  have := foldl_range z.f0 l 0 (by omega)
  rw [e2, ← e]
  refine ⟨(h x hx).1, ?_⟩
  rw [e]
  exact this
theorem joined_len {bs : List X.S44} (h : FineB bs) : (joinB (contentL bs)).length ≤ 240 := by
  have h1 := joinB_len (contentL bs)
  have h2 := content_len bs fun b hb => (h.lots b hb).1
  have := h.len
  omega
theorem rd44 (l : List X.S44) (i : Nat) (h : i < l.length) : rd_T44 l (i : Int) = l[i] := by simp [rd_T44, List.getD, List.getElem?_eq_getElem h]
theorem drop_box (l : List X.S44) (i : Nat) (h : i < l.length) : catB ((l.drop i).map boxS) = boxS l[i] ++ catB ((l.drop (i + 1)).map boxS) := by
  rw [List.drop_eq_getElem_cons h]
  rfl
theorem contents_eq {bs : List X.S44} (h : FineB bs) (k : Nat) (hk : bs.length < k) : pack_Content.f k bs = some (joinB (contentL bs)) ∧ supercargoref12_Content.f k bs = some (joinB (contentL bs)) := by
  have hc := content_fine bs fun b hb => (h.lots b hb).2.2
  have hl := content_len bs fun b hb => (h.lots b hb).1
  have hn := h.len
  constructor
  · rw [content_f bs (by omega) (by omega) k hk]
    unfold goods_Join.f
    rw [if_pos ⟨by omega, fun x hx => by have := (hc x hx).1; omega⟩]
  · rw [refContent_f bs (by omega) (by omega) k hk]
    unfold supercargoref11_Join.f
    rw [if_pos (by omega), rjoinB_eq _ fun x hx => (hc x hx).2.2]
theorem boxS_parts (b : X.S44) (h : b.f2.length ≤ 12 ∧ b.f0.size ≤ 40 ∧ Fine b.f2) : (lotsS b.f2).size ≤ 1201 ∧ (boxS b).size ≤ 1250 := by
  have h1 := lotsS_size b.f2 h.2.2
  have h2 : (boxS b).size = b.f0.size + 1 + 5 + (lotsS b.f2).size := by
    unfold boxS
    rw [ByteArray.size_append, ByteArray.size_append, ByteArray.size_append, kindS_size]
    rfl
  omega
theorem list_l {bs : List X.S44} (h : FineB bs) (d : Nat) : ∀ (k i : Nat) (acc : ByteArray), i + d = bs.length → d + 300 < k → acc.size + 1250 * d ≤ 1000000 →
    pack_List.l0 k bs acc bs (bs.length : Int) (i : Int) = some (acc ++ (catB ((bs.drop i).map boxS) ++ (⟨#[97, 108, 108]⟩ ++ lotsS (joinB (contentL bs))))) := by
  have hn := h.len
  have hj := joined_len h
  have hjf := joinB_fine _ (content_fine bs fun b hb => (h.lots b hb).2.2)
  have hjs := lotsS_size _ hjf
  induction d with
  | zero =>
    intro k i acc hi hk ha
    obtain ⟨k, rfl⟩ : ∃ m, k = m + 1 := ⟨k - 1, by omega⟩
    simp only [pack_List.l0]
    rw [if_neg (by omega), (contents_eq h k (by omega)).1, Option.bind_some, line_f _ _ (by omega) hjf (by show 3 ≤ _; omega) k (by omega), Option.bind_some,
      if_pos (by rw [ByteArray.size_append]; show _ + (3 + _) ≤ _; omega), List.drop_eq_nil_of_le (by omega), List.map_nil]
    show _ = some (acc ++ (⟨#[]⟩ ++ _))
    rw [nil_app]
  | succ d ih =>
    intro k i acc hi hk ha
    obtain ⟨k, rfl⟩ : ∃ m, k = m + 1 := ⟨k - 1, by omega⟩
    have hlt : i < bs.length := by omega
    have hb := h.lots bs[i] (List.getElem_mem hlt)
    have hz := boxS_parts _ hb
    have each : ∀ s : ByteArray, s.size = 5 → kindS bs[i].f1 = s →
        (if bs[i].f0.size + 1 ≤ 9223372036854775807 then (if bs[i].f0.size + 1 + 5 ≤ 9223372036854775807 then (pack_line.f k ((bs[i].f0 ++ (⟨#[32]⟩ : ByteArray)) ++ s) bs[i].f2).bind fun t => (if acc.size + t.size ≤ 9223372036854775807 then pack_List.l0 k bs (acc ++ t) bs (bs.length : Int) (wrap64 ((i : Int) + 1)) else none) else none) else none) =
        some (acc ++ (catB ((bs.drop i).map boxS) ++ (⟨#[97, 108, 108]⟩ ++ lotsS (joinB (contentL bs))))) := by
      intro s hs he
      have e : (bs[i].f0 ++ (⟨#[32]⟩ : ByteArray)) ++ s ++ lotsS bs[i].f2 = boxS bs[i] := by unfold boxS; rw [he]
      rw [if_pos (by omega), if_pos (by omega), line_f _ _ (by omega) hb.2.2 (by rw [ByteArray.size_append, ByteArray.size_append, hs]; show _ + 1 + 5 ≤ _; omega) k (by omega), Option.bind_some, e,
        if_pos (by omega), wn hlt (by omega), ih k (i + 1) _ (by omega) (by omega) (by rw [ByteArray.size_append]; omega), drop_box bs i hlt]
      simp only [ByteArray.append_assoc]
    simp only [pack_List.l0]
    rw [rd44 bs i hlt, if_pos (by omega), if_pos (by omega), if_pos (by omega)]
    by_cases h0 : bs[i].f1 = 0
    · rw [if_pos h0]
      exact each _ rfl (by unfold kindS; rw [if_pos h0])
    · rw [if_neg h0]
      by_cases h1 : bs[i].f1 = 1
      · rw [if_pos h1]
        exact each _ rfl (by unfold kindS; rw [if_neg h0, if_pos h1])
      · rw [if_neg h1]
        exact each _ rfl (by unfold kindS; rw [if_neg h0, if_neg h1])
theorem list_f {bs : List X.S44} (h : FineB bs) (k : Nat) (hk : 400 ≤ k) : pack_List.f k bs = some (listS bs) := by
  have hn := h.len
  unfold pack_List.f
  rw [show (0 : Int) = ((0 : Nat) : Int) from rfl, list_l h bs.length k 0 ⟨#[]⟩ (by omega) (by omega) (by show 0 + _ ≤ _; omega), nil_app]
  rfl
theorem refList_l {bs : List X.S44} (h : FineB bs) (d : Nat) : ∀ (k i : Nat) (acc : ByteArray), i + d = bs.length → d + 300 < k → acc.size + 1250 * d ≤ 1000000 →
    supercargoref12_List.l0 k bs acc (i : Int) = some (acc ++ (catB ((bs.drop i).map boxS) ++ (⟨#[97, 108, 108]⟩ ++ lotsS (joinB (contentL bs))))) := by
  have hn := h.len
  have hj := joined_len h
  have hjf := joinB_fine _ (content_fine bs fun b hb => (h.lots b hb).2.2)
  have hjs := lotsS_size _ hjf
  induction d with
  | zero =>
    intro k i acc hi hk ha
    obtain ⟨k, rfl⟩ : ∃ m, k = m + 1 := ⟨k - 1, by omega⟩
    simp only [supercargoref12_List.l0]
    rw [if_neg (by omega), if_pos (by omega), (contents_eq h k (by omega)).2, Option.bind_some, lots_f _ (by omega) hjf k (by omega), Option.bind_some,
      if_pos (by omega), List.drop_eq_nil_of_le (by omega), List.map_nil]
    show _ = some (acc ++ (⟨#[]⟩ ++ _))
    rw [nil_app, ByteArray.append_assoc]
  | succ d ih =>
    intro k i acc hi hk ha
    obtain ⟨k, rfl⟩ : ∃ m, k = m + 1 := ⟨k - 1, by omega⟩
    have hlt : i < bs.length := by omega
    have hb := h.lots bs[i] (List.getElem_mem hlt)
    have hz := boxS_parts _ hb
    have each : ∀ s : ByteArray, kindS bs[i].f1 = s →
        (if acc.size + bs[i].f0.size ≤ 9223372036854775807 then (if acc.size + bs[i].f0.size + 1 ≤ 9223372036854775807 then (if acc.size + bs[i].f0.size + 1 + 5 ≤ 9223372036854775807 then (supercargoref12_lots.f k bs[i].f2).bind fun t => (if acc.size + bs[i].f0.size + 1 + 5 + t.size ≤ 9223372036854775807 then supercargoref12_List.l0 k bs ((((acc ++ bs[i].f0) ++ (⟨#[32]⟩ : ByteArray)) ++ s) ++ t) (wrap64 ((i : Int) + 1)) else none) else none) else none) else none) =
        some (acc ++ (catB ((bs.drop i).map boxS) ++ (⟨#[97, 108, 108]⟩ ++ lotsS (joinB (contentL bs))))) := by
      intro s he
      have e : (((acc ++ bs[i].f0) ++ (⟨#[32]⟩ : ByteArray)) ++ s) ++ lotsS bs[i].f2 = acc ++ boxS bs[i] := by unfold boxS; rw [he]; simp only [ByteArray.append_assoc]
      rw [if_pos (by omega), if_pos (by omega), if_pos (by omega), lots_f _ (by omega) hb.2.2 k (by omega), Option.bind_some, e,
        if_pos (by omega), wn hlt (by omega), ih k (i + 1) _ (by omega) (by omega) (by rw [ByteArray.size_append]; omega), drop_box bs i hlt]
      simp only [ByteArray.append_assoc]
    simp only [supercargoref12_List.l0]
    rw [rd44 bs i hlt, if_pos (by omega), if_pos (by omega)]
    by_cases h0 : bs[i].f1 = 0
    · rw [if_pos h0, if_neg (by omega)]
      exact each _ (by unfold kindS; rw [if_pos h0])
    · rw [if_neg h0]
      by_cases h1 : bs[i].f1 = 1
      · rw [if_pos h1]
        exact each _ (by unfold kindS; rw [if_neg h0, if_pos h1])
      · rw [if_neg h1]
        exact each _ (by unfold kindS; rw [if_neg h0, if_neg h1])
theorem refList_f {bs : List X.S44} (h : FineB bs) (k : Nat) (hk : 400 ≤ k) : supercargoref12_List.f k bs = some (listS bs) := by
  have hn := h.len
  unfold supercargoref12_List.f
  rw [show (0 : Int) = ((0 : Nat) : Int) from rfl, refList_l h bs.length k 0 ⟨#[]⟩ (by omega) (by omega) (by show 0 + _ ≤ _; omega), nil_app]
  rfl
end Go.Proofs.YtfflbeenkfaemaaGreatDoor.Ref
namespace Go.Proofs.YtfflbeenkfaemaaGreatDoor.Ref
open Go.RowKit Go.Proofs.YtfflbeenkfaemaaGreatDoor.Ext Go.Proofs.YtfflbeenkfaemaaGreatDoor.X Go.Proofs.YtfflbeenkfaemaaGreatDoorW.PrintWords
def fewOne (x : X.S55) : Bool := decide (x.f0.size ≤ 60) && decide (x.f1 ≤ 1099511627776)
def fewL (l : List X.S55) : Bool := decide (l.length ≤ 41) && l.all fewOne
theorem few_l (l : List X.S55) (hl : l.length ≤ 1000000) (d : Nat) : ∀ (k i : Nat), i + d = l.length → d < k → i ≤ 41 →
    supercargoref11_Few.l0 k l (i : Int) = some (decide (l.length ≤ 41) && (l.drop i).all fewOne) := by
  induction d with
  | zero =>
    intro k i hi hk h41
    obtain ⟨k, rfl⟩ : ∃ m, k = m + 1 := ⟨k - 1, by omega⟩
    simp only [supercargoref11_Few.l0]
    rw [if_neg (by omega), List.drop_eq_nil_of_le (by omega), decide_eq_true (show l.length ≤ 41 by omega)]
    rfl
  | succ d ih =>
    intro k i hi hk h41
    obtain ⟨k, rfl⟩ : ∃ m, k = m + 1 := ⟨k - 1, by omega⟩
    have hlt : i < l.length := by omega
    simp only [supercargoref11_Few.l0]
    rw [if_pos (by omega)]
    by_cases h1 : (i : Int) > 40
    · rw [if_pos h1, decide_eq_false (show ¬ l.length ≤ 41 by omega)]
      rfl
    · rw [if_neg h1, if_pos (by omega), rd55 l i hlt, List.drop_eq_getElem_cons hlt, List.all_cons]
      by_cases h2 : (l[i].f0.size : Int) > 60
      · rw [if_pos h2]
        unfold fewOne
        rw [decide_eq_false (show ¬ l[i].f0.size ≤ 60 by omega)]
        simp
      · rw [if_neg h2]
        by_cases h3 : l[i].f1 > 1099511627776
        · rw [if_pos h3]
          unfold fewOne
          rw [decide_eq_false (show ¬ l[i].f1 ≤ 1099511627776 by omega)]
          simp
        · rw [if_neg h3, wn hlt (by omega), ih k (i + 1) (by omega) (by omega) (by omega)]
          have : fewOne l[i] = true := by unfold fewOne; simp; omega
          rw [this, Bool.true_and]
theorem few_f (l : List X.S55) (hl : l.length ≤ 1000000) (k : Nat) (hk : l.length < k) : supercargoref11_Few.f k l = some (fewL l) := by
  unfold supercargoref11_Few.f
  rw [show (0 : Int) = ((0 : Nat) : Int) from rfl, few_l l hl l.length k 0 (by omega) hk (by omega)]
  rfl
def fewG (gs : List X.S30) (l : List X.S55) : Bool := decide (gs.length ≤ 12) && decide (l.length ≤ 12) && fewL l
theorem fewG_f (gs : List X.S30) (l : List X.S55) (k : Nat) (hk : 13 ≤ k) : supercargolaw12_few.f k gs l = some (fewG gs l) := by
  unfold supercargolaw12_few.f fewG
  by_cases h1 : gs.length ≤ 12
  · rw [if_pos (by omega), decide_eq_true h1]
    by_cases h2 : l.length ≤ 12
    · rw [if_pos (by omega), decide_eq_true h2, few_f l (by omega) k (by omega)]
      rfl
    · rw [if_neg (by omega), decide_eq_false h2]
      rfl
  · rw [if_neg (by omega), decide_eq_false h1]
    rfl
def boxOne (b : X.S44) : Bool := decide (b.f2.length ≤ 12) && fewL b.f2 && decide (b.f0.size ≤ 40)
def boxesL (bs : List X.S44) : Bool := bs.all boxOne && decide (bs.length ≤ 20)
theorem wn63 {i n : Nat} (h : i < n) (hn : n ≤ 9223372036854775807) : wrap64 ((i : Int) + 1) = ((i + 1 : Nat) : Int) := by unfold wrap64; omega
theorem boxes_l (bs : List X.S44) (hl : bs.length ≤ 9223372036854775807) (d : Nat) : ∀ (k i : Nat), i + d = bs.length → d + 13 < k →
    supercargolaw12_boxes.l0 k bs (i : Int) = some ((bs.drop i).all boxOne && decide (bs.length ≤ 20)) := by
  induction d with
  | zero =>
    intro k i hi hk
    obtain ⟨k, rfl⟩ : ∃ m, k = m + 1 := ⟨k - 1, by omega⟩
    simp only [supercargolaw12_boxes.l0]
    rw [if_neg (by omega), List.drop_eq_nil_of_le (by omega)]
    congr 1
    simp only [List.all_nil, Bool.true_and]
    exact decide_eq_decide.2 (by omega)
  | succ d ih =>
    intro k i hi hk
    obtain ⟨k, rfl⟩ : ∃ m, k = m + 1 := ⟨k - 1, by omega⟩
    have hlt : i < bs.length := by omega
    simp only [supercargolaw12_boxes.l0]
    rw [if_pos (by omega), if_pos (by omega), rd44 bs i hlt, List.drop_eq_getElem_cons hlt, List.all_cons]
    by_cases h2 : (bs[i].f2.length : Int) > 12
    · rw [if_pos h2]
      unfold boxOne
      rw [decide_eq_false (show ¬ bs[i].f2.length ≤ 12 by omega)]
      rfl
    · rw [if_neg h2, few_f _ (by omega) k (by omega), Option.bind_some]
      have e : boxOne bs[i] = (fewL bs[i].f2 && decide (bs[i].f0.size ≤ 40)) := by
        unfold boxOne
        rw [decide_eq_true (show bs[i].f2.length ≤ 12 by omega), Bool.true_and]
      rw [e]
      by_cases h3 : fewL bs[i].f2 = true
      · rw [if_pos h3, h3]
        by_cases h4 : (bs[i].f0.size : Int) > 40
        · rw [if_pos h4, decide_eq_false (show ¬ bs[i].f0.size ≤ 40 by omega)]
          rfl
        · rw [if_neg h4, decide_eq_true (show bs[i].f0.size ≤ 40 by omega), wn63 hlt (by omega), ih k (i + 1) (by omega) (by omega)]
          rfl
      · rw [if_neg h3, Bool.eq_false_iff.2 h3]
        rfl
theorem boxes_f (bs : List X.S44) (hl : bs.length ≤ 9223372036854775807) (k : Nat) (hk : bs.length + 13 < k) : supercargolaw12_boxes.f k bs = some (boxesL bs) := by
  unfold supercargolaw12_boxes.f
  rw [show (0 : Int) = ((0 : Nat) : Int) from rfl, boxes_l bs hl bs.length k 0 (by omega) hk]
  rfl
/-- What a guard lets through is fine, if its counts are the machine's. -/
theorem few_fine {l : List X.S55} (h : fewL l = true) (hw : ∀ x ∈ l, -9223372036854775808 ≤ x.f1) : Fine l := fun x hx => by
  unfold fewL at h
  rw [Bool.and_eq_true, List.all_eq_true] at h
  have h1 := h.2 x hx
  unfold fewOne at h1
  simp only [Bool.and_eq_true, decide_eq_true_eq] at h1
  exact ⟨h1.1, hw x hx, by omega⟩
theorem boxes_fine {bs : List X.S44} (h : boxesL bs = true) (hw : ∀ b ∈ bs, ∀ x ∈ b.f2, -9223372036854775808 ≤ x.f1) : FineB bs := by
  unfold boxesL at h
  rw [Bool.and_eq_true, List.all_eq_true, decide_eq_true_eq] at h
  refine ⟨h.2, fun b hb => ?_⟩
  have h1 := h.1 b hb
  unfold boxOne at h1
  simp only [Bool.and_eq_true, decide_eq_true_eq] at h1
  exact ⟨h1.1.1, h1.2, few_fine h1.1.2 (hw b hb)⟩
end Go.Proofs.YtfflbeenkfaemaaGreatDoor.Ref
namespace Go.Proofs.YtfflbeenkfaemaaGreatDoor.Ext
open Go.RowKit Go.Proofs.YtfflbeenkfaemaaGreatDoor.Ref Go.Proofs.YtfflbeenkfaemaaGreatDoorW.PrintWords Go.Proofs.YtfflbeenkfaemaaGreatDoorW.PrintLast
/-- Boxes as an argument brings them. -/
structure BoxA (w : World) (A : Option Addr) (c : Nat) (bs : List X.S44) : Prop where
  row : Kd.C X.k44 w A bs.length bs
  cap : bs.length ≤ c
  len : bs.length ≤ 9223372036854775807
  marks : ∀ b ∈ bs, b.f0.size ≤ 9223372036854775807
  lots : ∀ b ∈ bs, ∀ x ∈ b.f2, x.f0.size ≤ 9223372036854775807 ∧ -9223372036854775808 ≤ x.f1 ∧ x.f1 ≤ 9223372036854775807
theorem BoxA.below {w w' : World} {A : Option Addr} {c : Nat} {bs : List X.S44} (h : BoxA w A c bs) (hb : Below w.heap.size w w') : BoxA w' A c bs := ⟨Kd.C_below h.row hb, h.cap, h.len, h.marks, h.lots⟩
theorem boxes_any {w : World} {A : Option Addr} {c : Nat} {bs : List X.S44} (h : BoxA w A c bs) :
    Calls Tryz.prog 30 #[.slice A bs.length c] w fun e w' => e = .returned (.bool (boxesL bs)) ∧ Below w.heap.size w w' :=
  (X.supercargolaw12_boxes.calls (bs.length + 14) A c bs _ w h.row h.cap (boxes_f bs h.len _ (by omega))).mono fun _ _ ⟨e, d⟩ => ⟨e, d.below⟩
set_option maxHeartbeats 4000000 in
set_option maxRecDepth 100000 in
theorem PackLists_any (A : Option Addr) (c : Nat) (bs : List X.S44) (w : World) (hr : BoxA w A c bs) (hap : ApartAt w) (HT : TB w) :
    Calls Tryz.prog 6 #[.slice A bs.length c] w fun e w' => e = .returned (.bool true) ∧ Below w.heap.size w w' := by
  have cA := fun W (hW : Below w.heap.size w W) => awake_any W (hap.below hW) (HT.below hW)
  have cB := fun W (hW : Below w.heap.size w W) => boxes_any (hr.below hW)
  have cA0 := cA w (Below.refl _ _)
  cases hb : boxesL bs with
  | false =>
    rw [hb] at cB
    go_enter Tryz.func6, Tryz.ntmps6
    go_wp2_with fail
    refine cA0.mono ?_
    rintro e w1 ⟨rfl, hb1⟩
    have hB1 := below_step (Below.refl _ _) hb1
    have cB1 := cB w1 hB1
    go_wp2_with fail
    refine cB1.mono ?_
    rintro e w2 ⟨rfl, hb2⟩
    have hB2 := below_step hB1 hb2
    have cA2 := cA w2 hB2
    go_wp2_with fail
    refine cA2.mono ?_
    rintro e w3 ⟨rfl, hb3⟩
    have hB3 := below_step hB2 hb3
    go_wp2_with fail
    go_ret
    exact ⟨rfl, hB3⟩
  | true =>
    have hf := boxes_fine hb fun b hb x hx => (hr.lots b hb x hx).2.1
    have hn := hf.len
    have cL := fun W (hW : Below w.heap.size w W) => X.pack_List.calls 400 A c bs _ W (hr.below hW).row hr.cap (list_f hf 400 (by omega)) (HT.below hW)
    have cR := fun W (hW : Below w.heap.size w W) => X.supercargoref12_List.calls 400 A c bs _ W (hr.below hW).row hr.cap (refList_f hf 400 (by omega))
    have cC := fun W (hW : Below w.heap.size w W) => X.pack_Content.calls 400 A c bs _ W (hr.below hW).row hr.cap (contents_eq hf 400 (by omega)).1
    have cD := fun W (hW : Below w.heap.size w W) => X.supercargoref12_Content.calls 400 A c bs _ W (hr.below hW).row hr.cap (contents_eq hf 400 (by omega)).2
    have hj := joined_len hf
    generalize joinB (contentL bs) = L at cC cD hj
    generalize listS bs = S at cL cR
    rw [hb] at cB
    go_enter Tryz.func6, Tryz.ntmps6
    go_wp2_with fail
    refine cA0.mono ?_
    rintro e w1 ⟨rfl, hb1⟩
    have hB1 := below_step (Below.refl _ _) hb1
    have cB1 := cB w1 hB1
    go_wp2_with fail
    refine cB1.mono ?_
    rintro e w2 ⟨rfl, hb2⟩
    have hB2 := below_step hB1 hb2
    have cL2 := cL w2 hB2
    go_wp2_with fail
    refine cL2.mono ?_
    rintro e w3 ⟨rfl, hb3⟩
    have hB3 := below_step hB2 hb3
    have cR3 := cR w3 hB3
    go_wp2_with fail
    refine cR3.mono ?_
    rintro e w4 ⟨rfl, hb4⟩
    have hB4 := below_step hB3 hb4
    have cC4 := cC w4 hB4
    go_wp2_with fail
    refine cC4.mono ?_
    rintro e w5 ⟨v5, rfl, hR5, hb5⟩
    have hB5 := below_step hB4 hb5
    have cD5 := cD w5 hB5
    obtain ⟨A5, c5, rfl⟩ := Kd.R_slice hR5
    go_wp2_with fail
    refine cD5.mono ?_
    rintro e w6 ⟨v6, rfl, hR6, hb6⟩
    have hB6 := below_step hB5 hb6
    obtain ⟨A6, c6, rfl⟩ := Kd.R_slice hR6
    have hR5' := Kd.R_below hR5 hb6
    obtain ⟨_, k5, q5⟩ := Kd.R_reads' hR5'
    obtain ⟨_, k6, q6⟩ := Kd.R_reads' hR6
    have cS := X.supercargoref11_Same.calls 400 A5 c5 L A6 c6 L _ w6 q5 k5 q6 k6 (same_f L L (by omega) 400 (by omega))
    rw [decide_eq_true rfl] at cS
    go_wp2_with fail
    refine cS.mono ?_
    rintro e w7 ⟨rfl, hd7⟩
    have hB7 := below_step hB6 (hd7.below)
    go_wp2_with fail
    go_ret
    exact ⟨rfl, hB7⟩
end Go.Proofs.YtfflbeenkfaemaaGreatDoor.Ext
namespace Go.Proofs.YtfflbeenkfaemaaGreatDoor.Ext
open Go.ChangeShapes Go.WideShapes Go.ChangeAt Go.RowKit Go.Deep Go.Proofs.YtfflbeenkfaemaaGreatDoorW.PrintWords
theorem cellsS : Tryz.prog.cellsOf 9 = 1 := by kernel_rfl
theorem cellsI : Tryz.prog.cellsOf 3 = 1 := by kernel_rfl
theorem wf_range {n : Int} (h : (Lit.int .i64 n).wf = true) : -9223372036854775808 ≤ n ∧ n ≤ 9223372036854775807 := by
  simp only [Lit.wf, Bool.and_eq_true, decide_eq_true_eq] at h
  have h1 : IntKind.i64.min = -9223372036854775808 := rfl
  have h2 : IntKind.i64.max = 9223372036854775807 := rfl
  rw [h1, h2] at h
  exact h
set_option maxRecDepth 100000 in
theorem slice_Q {H : Type} {enc : TypeId × Value → H} {W : World} {base : Nat} {spare : Nat → Bool} {held : Bool} {t e : TypeId} {α : Type} (k : Kd α) (Q : α → Prop)
    (ht : Tryz.prog.underlying t = some (.slice e)) (hsz : Tryz.prog.cellsOf e = k.sz) (hel : ∀ n cs y, DataW.trod enc Tryz.prog W base spare held n e cs = some y → ∃ x, k.K W x cs ∧ Q x)
    {fuel : Nat} {cs : List Value} {y : DataW H × List MemPlace} (hf : DataW.trod enc Tryz.prog W base spare held fuel t cs = some y) :
    ∃ (A : Option Addr) (l : List α) (c : Nat), cs = [.slice A l.length c] ∧ l.length ≤ c ∧ l.length ≤ 9223372036854775807 ∧ Kd.C k W A l.length l ∧ ∀ x ∈ l, Q x := by
  rcases open_slice ht hf with ⟨rfl, _⟩ | ⟨a, len, cap, m, n, D, Pl, rfl, _, hl, hm, hmm, _, hi⟩
  · exact ⟨none, [], 0, rfl, Nat.le_refl _, by simp, Kd.C_nil _ _, fun _ h => by cases h⟩
  · have hle : len ≤ m := by rw [hmm]; split <;> omega
    have each : ∀ j, j < len → ∃ x c, c.length = k.sz ∧ k.K W x c ∧ Q x ∧ ∀ i u, c[i]? = some u → W.cell? (a.add (j * k.sz + i)) = some u := by
      intro j hj
      obtain ⟨cs, hc, htr⟩ := hi j (by omega)
      obtain ⟨x, hx, hQ⟩ := hel _ _ _ htr
      obtain ⟨_, hcl, hat⟩ := World.cells?_some hc
      rw [hsz] at hcl hat
      refine ⟨x, cs, hcl, hx, hQ, fun i u hu => ?_⟩
      have hil : i < k.sz := by have := (List.getElem?_eq_some_iff.1 hu).1; omega
      have := hat i hil
      rw [hu] at this
      rw [← this, Go.Addr.add_add]
    have build : ∀ q, q ≤ len → ∃ l : List α, l.length = q ∧ ∀ j x, l[j]? = some x → Q x ∧ ∃ c, c.length = k.sz ∧ k.K W x c ∧ ∀ i u, c[i]? = some u → W.cell? (a.add (j * k.sz + i)) = some u := by
      intro q
      induction q with
      | zero => exact fun _ => ⟨[], rfl, fun j x hx => by simp at hx⟩
      | succ q ih =>
        intro hq
        obtain ⟨l, hll, hle⟩ := ih (by omega)
        obtain ⟨x, c, h1, h2, h3, h4⟩ := each q (by omega)
        refine ⟨l ++ [x], by simp [hll], fun j y hy => ?_⟩
        by_cases hj : j < l.length
        · rw [List.getElem?_append_left hj] at hy
          exact hle j y hy
        · have hjq : j = q := by have := (List.getElem?_eq_some_iff.1 hy).1; simp [hll] at this; omega
          subst hjq
          rw [← hll, List.getElem?_concat_length] at hy
          obtain rfl := Option.some.inj hy
          exact ⟨h3, c, h1, h2, h4⟩
    obtain ⟨l, hll, hat⟩ := build len (Nat.le_refl _)
    subst hll
    refine ⟨some a, l, cap, rfl, hl, by unfold maxLen at hm; omega, ⟨rfl, by unfold maxLen at hm; omega, fun _ => ⟨a, rfl, fun j x hx => (hat j x hx).2⟩⟩, fun x hx => ?_⟩
    obtain ⟨j, hj, rfl⟩ := List.getElem_of_mem hx
    exact (hat j _ (List.getElem?_eq_getElem hj)).1
/-- What a lot that is read is. -/
def QLot (x : X.S55) : Prop := x.f0.size ≤ 9223372036854775807 ∧ -9223372036854775808 ≤ x.f1 ∧ x.f1 ≤ 9223372036854775807
def QGood (x : X.S30) : Prop := x.f0.size ≤ 9223372036854775807 ∧ (-9223372036854775808 ≤ x.f1 ∧ x.f1 ≤ 9223372036854775807) ∧ (-9223372036854775808 ≤ x.f2 ∧ x.f2 ≤ 9223372036854775807) ∧ (-9223372036854775808 ≤ x.f3 ∧ x.f3 ≤ 9223372036854775807)
def QBox (x : X.S44) : Prop := x.f0.size ≤ 9223372036854775807 ∧ (-9223372036854775808 ≤ x.f1 ∧ x.f1 ≤ 9223372036854775807) ∧ ∀ y ∈ x.f2, QLot y
theorem str_le {s : ByteArray} (h : s.size ≤ maxLen) : s.size ≤ 9223372036854775807 := by unfold maxLen at h; omega
set_option maxRecDepth 100000 in
theorem lot_K {H : Type} {enc : TypeId × Value → H} {W : World} {base : Nat} {spare : Nat → Bool} {held : Bool} {n : Nat} {cs : List Value} {y : DataW H × List MemPlace} (h : DataW.trod enc Tryz.prog W base spare held n 55 cs = some y) : ∃ x, X.k55.K W x cs ∧ QLot x := by
  obtain ⟨xs, n, _, hx, hlen, hxlen, hg⟩ := DataW.trod_struct Tryz.underlying55 h
  have hxl : xs.length = 2 := hxlen
  have hc : Tryz.prog.cellsOf 55 = 2 := by kernel_rfl
  rw [hc] at hlen
  match cs, hlen with
  | [c0, c1], _ =>
    have f0 := hg 0 _ rfl
    have f1 := hg 1 _ rfl
    rw [List.getElem?_eq_getElem (by omega)] at f0 f1
    obtain ⟨s0, q0, _, r0⟩ := DataW.trod_string Tryz.underlying9 f0
    obtain ⟨n1, q1, _, r1⟩ := DataW.trod_int Tryz.underlying3 f1
    have z0 : c0 = .string s0 := by simpa [cellsS] using q0
    have z1 : c1 = .int .i64 n1 := by simpa [cellsI] using q1
    rw [z0, z1]
    exact ⟨⟨s0, n1⟩, X.k55_mk _ _, str_le r0, wf_range r1⟩
set_option maxRecDepth 100000 in
theorem good_K {H : Type} {enc : TypeId × Value → H} {W : World} {base : Nat} {spare : Nat → Bool} {held : Bool} {n : Nat} {cs : List Value} {y : DataW H × List MemPlace} (h : DataW.trod enc Tryz.prog W base spare held n 30 cs = some y) : ∃ x, X.k30.K W x cs ∧ QGood x := by
  obtain ⟨xs, n, _, hx, hlen, hxlen, hg⟩ := DataW.trod_struct Tryz.underlying30 h
  have hxl : xs.length = 4 := hxlen
  have hc : Tryz.prog.cellsOf 30 = 4 := by kernel_rfl
  rw [hc] at hlen
  match cs, hlen with
  | [c0, c1, c2, c3], _ =>
    have f0 := hg 0 _ rfl
    have f1 := hg 1 _ rfl
    have f2 := hg 2 _ rfl
    have f3 := hg 3 _ rfl
    rw [List.getElem?_eq_getElem (by omega)] at f0 f1 f2 f3
    obtain ⟨s0, q0, _, r0⟩ := DataW.trod_string Tryz.underlying9 f0
    obtain ⟨n1, q1, _, r1⟩ := DataW.trod_int Tryz.underlying3 f1
    obtain ⟨n2, q2, _, r2⟩ := DataW.trod_int Tryz.underlying3 f2
    obtain ⟨n3, q3, _, r3⟩ := DataW.trod_int Tryz.underlying3 f3
    have z0 : c0 = .string s0 := by simpa [cellsS] using q0
    have z1 : c1 = .int .i64 n1 := by simpa [cellsI] using q1
    have z2 : c2 = .int .i64 n2 := by simpa [cellsI] using q2
    have z3 : c3 = .int .i64 n3 := by simpa [cellsI] using q3
    rw [z0, z1, z2, z3]
    exact ⟨⟨s0, n1, n2, n3⟩, X.k30_mk _ _, str_le r0, wf_range r1, wf_range r2, wf_range r3⟩
set_option maxRecDepth 100000 in
theorem box_K {H : Type} {enc : TypeId × Value → H} {W : World} {base : Nat} {spare : Nat → Bool} {held : Bool} {n : Nat} {cs : List Value} {y : DataW H × List MemPlace} (h : DataW.trod enc Tryz.prog W base spare held n 44 cs = some y) : ∃ x, X.k44.K W x cs ∧ QBox x := by
  obtain ⟨xs, n, _, hx, hlen, hxlen, hg⟩ := DataW.trod_struct Tryz.underlying44 h
  have hxl : xs.length = 3 := hxlen
  have hc : Tryz.prog.cellsOf 44 = 3 := by kernel_rfl
  have hcl : Tryz.prog.cellsOf 35 = 1 := by kernel_rfl
  rw [hc] at hlen
  match cs, hlen with
  | [c0, c1, c2], _ =>
    have f0 := hg 0 _ rfl
    have f1 := hg 1 _ rfl
    have f2 := hg 2 _ rfl
    rw [List.getElem?_eq_getElem (by omega)] at f0 f1 f2
    obtain ⟨s0, q0, _, r0⟩ := DataW.trod_string Tryz.underlying9 f0
    obtain ⟨n1, q1, _, r1⟩ := DataW.trod_int Tryz.underlying3 f1
    obtain ⟨A2, l2, k2, q2, g2, _, C2, Q2⟩ := slice_Q X.k55 QLot Tryz.underlying35 (by kernel_rfl) (fun _ _ _ ht => lot_K ht) f2
    have z0 : c0 = .string s0 := by simpa [cellsS] using q0
    have z1 : c1 = .int .i64 n1 := by simpa [cellsI] using q1
    have z2 : c2 = .slice A2 l2.length k2 := by simpa [hcl] using q2
    rw [z0, z1, z2]
    exact ⟨⟨s0, n1, l2⟩, X.k44_mk W ⟨s0, n1, l2⟩ g2 C2, str_le r0, wf_range r1, Q2⟩
set_option maxRecDepth 100000 in
theorem slice_A {H : Type} {enc : TypeId × Value → H} {W : World} {base : Nat} {spare : Nat → Bool} {held : Bool} {r : Reach} {b0 : Nat} {v : Value} {d : DataW H} {p : List MemPlace} {t e : TypeId} {α : Type} (k : Kd α) (Q : α → Prop)
    (ht : Tryz.prog.underlying t = some (.slice e)) (hsz : Tryz.prog.cellsOf e = k.sz) (hel : ∀ n cs y, DataW.trod enc Tryz.prog W base spare held n e cs = some y → ∃ x, k.K W x cs ∧ Q x)
    (hv : Value.okWide Tryz.prog W r b0 t v) (h : DataW.Trod enc Tryz.prog W base spare held t v d p) :
    ∃ (A : Option Addr) (l : List α) (c : Nat), v = .slice A l.length c ∧ l.length ≤ c ∧ l.length ≤ 9223372036854775807 ∧ Kd.C k W A l.length l ∧ ∀ x ∈ l, Q x := by
  obtain ⟨a0, len, cap, rfl⟩ := okWide_slice ht hv
  obtain ⟨fuel, hf⟩ := h
  obtain ⟨A, l, c, e, r⟩ := slice_Q k Q ht hsz hel hf
  exact ⟨A, l, c, by simpa [Value.cells] using e, r⟩
set_option maxRecDepth 100000 in
theorem goods_A {H : Type} {enc : TypeId × Value → H} {W : World} {base : Nat} {spare : Nat → Bool} {held : Bool} {r : Reach} {b0 : Nat} {v : Value} {d : DataW H} {p : List MemPlace} (hv : Value.okWide Tryz.prog W r b0 25 v) (h : DataW.Trod enc Tryz.prog W base spare held 25 v d p) :
    ∃ (A : Option Addr) (l : List X.S30) (c : Nat), v = .slice A l.length c ∧ l.length ≤ c ∧ l.length ≤ 9223372036854775807 ∧ Kd.C X.k30 W A l.length l ∧ ∀ x ∈ l, QGood x :=
  slice_A X.k30 QGood Tryz.underlying25 (by kernel_rfl) (fun _ _ _ ht => good_K ht) hv h
set_option maxRecDepth 100000 in
theorem lots_A {H : Type} {enc : TypeId × Value → H} {W : World} {base : Nat} {spare : Nat → Bool} {held : Bool} {r : Reach} {b0 : Nat} {v : Value} {d : DataW H} {p : List MemPlace} (hv : Value.okWide Tryz.prog W r b0 35 v) (h : DataW.Trod enc Tryz.prog W base spare held 35 v d p) :
    ∃ (A : Option Addr) (l : List X.S55) (c : Nat), v = .slice A l.length c ∧ l.length ≤ c ∧ l.length ≤ 9223372036854775807 ∧ Kd.C X.k55 W A l.length l ∧ ∀ x ∈ l, QLot x :=
  slice_A X.k55 QLot Tryz.underlying35 (by kernel_rfl) (fun _ _ _ ht => lot_K ht) hv h
set_option maxRecDepth 100000 in
theorem boxes_A {H : Type} {enc : TypeId × Value → H} {W : World} {base : Nat} {spare : Nat → Bool} {held : Bool} {r : Reach} {b0 : Nat} {v : Value} {d : DataW H} {p : List MemPlace} (hv : Value.okWide Tryz.prog W r b0 37 v) (h : DataW.Trod enc Tryz.prog W base spare held 37 v d p) :
    ∃ (A : Option Addr) (l : List X.S44) (c : Nat), v = .slice A l.length c ∧ l.length ≤ c ∧ l.length ≤ 9223372036854775807 ∧ Kd.C X.k44 W A l.length l ∧ ∀ x ∈ l, QBox x :=
  slice_A X.k44 QBox Tryz.underlying37 (by kernel_rfl) (fun _ _ _ ht => box_K ht) hv h
end Go.Proofs.YtfflbeenkfaemaaGreatDoor.Ext
namespace Go.Proofs.YtfflbeenkfaemaaGreatDoor.Base
open Go.ChangeShapes Go.WideShapes Go.ChangeAt Go.RowKit Go.Deep
theorem laidOut : laidOutB Tryz.prog = true := by kernel_rfl
theorem own : ownKnob Tryz.prog.godebug = none := by kernel_rfl
theorem gPow : Tryz.prog.globalNamed "internal/strconv.uint64pow10" = some 3 := by kernel_rfl
theorem gPowType : (Tryz.prog.globals[3]?).map (·.type) = some 228 := by kernel_rfl
theorem cellsPow : Tryz.prog.cellsOf 228 = 20 := by kernel_rfl
theorem cellsU64 : Tryz.prog.cellsOf 114 = 1 := by kernel_rfl
theorem gApart : Tryz.prog.globalNamed "supercargo/goods.apart" = some 0 := by kernel_rfl
theorem gApartType : (Tryz.prog.globals[0]?).map (·.type) = some 140 := by kernel_rfl
theorem cellsApart : Tryz.prog.cellsOf 140 = 10 := by kernel_rfl
theorem cellsRow : Tryz.prog.cellsOf 95 = 1 := by kernel_rfl
/-- One row of the table. -/
def rowD (zs : List Int) : DataW Unit := if zs = [] then .nil else .slice (zs.map fun z => .lit (.int .i64 z)) []
theorem addNone (b o j : Nat) : (⟨b, o, none⟩ : Addr).add j = ⟨b, o + j, none⟩ := by
  unfold Addr.add
  by_cases h : j = 0 <;> simp [h]
theorem spot_none {w : World} {a : Addr} {v : Value} (h : w.cell? a = some v) : a = ⟨a.block, a.off, none⟩ := by
  unfold World.cell? at h
  split at h
  · obtain ⟨b, o, s⟩ := a
    cases s with
    | none => rfl
    | some s => simp at h
  · cases h
set_option maxRecDepth 100000 in
theorem row_at {w : World} {fuel : Nat} {v : Value} {zs : List Int} {p : List MemPlace} (h : DataW.trod (fun _ => ()) Tryz.prog w 0 (fun _ => true) false fuel 95 [v] = some (rowD zs, p)) : Ext.RowAt w v zs := by
  rcases open_slice Tryz.underlying95 h with ⟨hv, hd⟩ | ⟨a, len, cap, m, n, D, Pl, hv, _, hl, hm, hmm, hd, hi⟩
  · obtain rfl : v = .slice none 0 0 := by simpa using hv
    left
    refine ⟨?_, none, 0, rfl⟩
    unfold rowD at hd
    split at hd
    · assumption
    · cases hd
  · obtain rfl : v = .slice (some a) len cap := by simpa using hv
    by_cases hz : zs = []
    · unfold rowD at hd
      rw [if_pos hz] at hd
      cases hd
    · right
      unfold rowD at hd
      rw [if_neg hz] at hd
      injection hd with hd _
      injection hd with hd _
      have hle : len ≤ m := by rw [hmm]; split <;> omega
      have hlen : zs.length = len := by
        have := congrArg List.length hd
        simpa using this
      have hpos : 0 < zs.length := List.length_pos_iff.2 hz
      have each : ∀ j, j < len → w.cell? (a.add j) = some (.int .i64 (zs.getD j 0)) := fun j hj => by
        obtain ⟨cs, hc, htr⟩ := hi j (by omega)
        obtain ⟨x, hx, he, _⟩ := DataW.trod_int Tryz.underlying3 htr
        obtain ⟨_, hcl, hat⟩ := World.cells?_some hc
        subst hx
        rw [Ext.cellsI] at hat
        have h1 := hat 0 (by omega)
        rw [Go.Addr.add_add, Nat.mul_one, Nat.add_zero] at h1
        injection he with he _
        have h2 : (zs.map fun z => (DataW.lit (.int .i64 z) : DataW Unit))[j]? = ((List.range len).map D)[j]? := by rw [hd]
        rw [List.getElem?_map, List.getElem?_map, List.getElem?_range hj, List.getElem?_eq_getElem (by omega)] at h2
        simp only [Option.map_some, Option.some.injEq] at h2
        rw [he] at h2
        injection h2 with h2
        injection h2 with _ h2
        rw [h1]
        simp [List.getD, List.getElem?_eq_getElem (show j < zs.length by omega), h2]
      have ha := spot_none (each 0 (by omega))
      have ha0 : a.add 0 = a := rfl
      rw [ha0] at ha
      generalize a.block = b at ha
      generalize a.off = o at ha
      subst ha
      refine ⟨b, o, cap, by rw [hlen], fun j hj => ?_⟩
      have := each j (by omega)
      rw [addNone] at this
      exact this
set_option maxRecDepth 100000 in
theorem ap_of_head {W : World} (h : laidMet Tryz.prog [("supercargo/goods.apart", Rows.laid_supercargo_goods_apart)] W) : Ext.ApartAt W := by
  obtain ⟨ps, ⟨g', t', cs, fuel, p, q, hg', ht', hvar, hd, _, _⟩, _⟩ := h
  obtain rfl := Option.some.inj (gApart.symm.trans hg')
  obtain rfl := Option.some.inj (gApartType.symm.trans ht')
  have c := fun i => World.var?_cell gApart hvar i
  cases fuel with
  | zero => simp [DataW.trod] at hd
  | succ fuel =>
    simp only [DataW.trod, Tryz.underlying140, cellsRow, Nat.mul_one, cellsApart] at hd
    split at hd
    · rename_i hl
      obtain ⟨xs, hm, hx⟩ := Option.map_eq_some_iff.1 hd
      injection hx with hx _
      have hxs : xs.map (·.1) = Ext.apartT.map rowD := by
        injection hx with hx
      have hxl : xs.length = 10 := by simpa using Lib.mapM_length hm
      intro i hi
      obtain ⟨b, hb, hf⟩ := Lib.mapM_at hm i i (by simp [hi])
      have hci : cs.toList[i]? = some (cs.toList[i]'(by omega)) := List.getElem?_eq_getElem _
      have h1 : (cs.toList.drop i).take 1 = [cs.toList[i]'(by omega)] := by
        rw [List.drop_eq_getElem_cons (by omega)]
        rfl
      rw [h1] at hf
      obtain ⟨b1, b2⟩ := b
      have h2 : (xs.map (·.1))[i]? = some b1 := by simp [hb]
      rw [hxs, List.getElem?_map] at h2
      have h3 : Ext.apartT[i]? = some (Ext.apartT.getD i []) := by
        have : i < Ext.apartT.length := hi
        simp [List.getD, List.getElem?_eq_getElem this]
      rw [h3] at h2
      simp only [Option.map_some, Option.some.injEq] at h2
      subst h2
      refine ⟨_, (c i).trans ?_, row_at hf⟩
      rw [← Array.getElem?_toList, hci]
    · cases hd
end Go.Proofs.YtfflbeenkfaemaaGreatDoor.Base
