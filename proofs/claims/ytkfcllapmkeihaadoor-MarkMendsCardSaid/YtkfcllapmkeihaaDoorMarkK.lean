/- The walks of mark.padded and mark.Make: what each returns, as plain functions. Make leans on the library's table of powers of ten ('TB'). -/
import Derived.Test.YtkfcllapmkeihaaDoorMarkM
namespace Go.Proofs.YtkfcllapmkeihaaDoor.Ext
open Go.RowKit

def padL (n : Int) (w : Nat) : List UInt8 := List.replicate (w - (Lib.itoa n).length) 48 ++ Lib.itoa n
def padB (n : Int) (w : Nat) : ByteArray := ⟨(padL n w).toArray⟩
theorem repeat_one (c : Nat) : Lib.repeatL [48] c = List.replicate c 48 := by
  induction c with
  | zero => rfl
  | succ c ih => simp [Lib.repeatL, ih, List.replicate_succ]

theorem itoa_any (n : Int) (h0 : 0 ≤ n) (h1 : n ≤ 999999) (w : World) (hT : TB w) :
    Calls Tryd.prog 40 #[.int .i64 n] w fun e w' => e = .returned (.string ⟨(Lib.itoa n).toArray⟩) ∧ Below w.heap.size w w' :=
  (Tryd.strconv_Itoa n (by omega) (by omega) w hT.here).mono fun _ _ ⟨he, k, os, hw⟩ => ⟨he, hw ▸ Lib.below_grow _ w (Nat.le_refl _) k os⟩

def zerosB (c : Int) : ByteArray := ⟨(List.replicate c.toNat 48).toArray⟩
theorem zerosB_size (c : Int) : (zerosB c).size = c.toNat := by simp [zerosB, ByteArray.size]
theorem repeat_any (c : Int) (h0 : 0 ≤ c) (h1 : c ≤ 6) (w : World) :
    Calls Tryd.prog 41 #[.string ⟨#[48]⟩, .int .i64 c] w fun e w' => e = .returned (.string (zerosB c)) ∧ Below w.heap.size w w' := by
  obtain ⟨m, rfl⟩ := Int.eq_ofNat_of_zero_le h0
  have hs : ByteArray.size ⟨#[48]⟩ = 1 := rfl
  have h := Tryd.strings_Repeat ⟨#[48]⟩ m w (by omega) (by rw [hs]; omega)
  rw [show (⟨#[48]⟩ : ByteArray).data.toList = [48] from rfl, repeat_one] at h
  exact h

set_option maxHeartbeats 2000000 in
theorem padded_any (n : Int) (h0 : 0 ≤ n) (h1 : n ≤ 999999) (m : Nat) (hm : m ≤ 6) (hl : (Lib.itoa n).length ≤ m) (w : World) (hT : TB w) :
    Calls Tryd.prog 28 #[.int .i64 n, .int .i64 m] w fun e w' => e = .returned (.string (padB n m)) ∧ Below w.heap.size w w' := by
  have c1 := itoa_any n h0 h1
  have hp : Hid (padB n m = zerosB ((m : Int) - ((Lib.itoa n).length : Int)) ++ ⟨(Lib.itoa n).toArray⟩) := by
    show padB n m = _
    unfold zerosB
    rw [show ((m : Int) - ((Lib.itoa n).length : Int)).toNat = m - (Lib.itoa n).length by omega]
    simp [padB, padL, ByteArray.ext_iff]
  generalize hg : Lib.itoa n = l at *
  clear hg
  go_enter Tryd.func28, Tryd.ntmps28
  go_wp2_with fail
  refine (c1 _ hT).mono ?_
  rintro e w1 ⟨rfl, hb1⟩
  go_wp2_with fail
  refine (repeat_any _ (by omega) (by omega) _).mono ?_
  rintro e w2 ⟨rfl, hb2⟩
  have hsz : (zerosB ((m : Int) - (l.length : Int))).size + l.length ≤ 9223372036854775807 := by
    rw [zerosB_size]; omega
  go_wp2_with fail
  go_ret
  exact ⟨by rw [hp.out]; rfl, hb1.trans (hb2.mono hb1.size)⟩

theorem nDigits_le (k : Nat) : ∀ u, u < 10 ^ (k + 1) → Lib.nDigits u ≤ k + 1 := by
  induction k with
  | zero => intro u h; rw [Lib.nDigits_small (by omega)]; omega
  | succ k ih =>
    intro u h
    by_cases hu : u < 10
    · rw [Lib.nDigits_small hu]; omega
    · rw [Lib.nDigits_big hu]
      have : u / 10 < 10 ^ (k + 1) := by
        rw [Nat.pow_succ] at h
        omega
      have := ih _ this
      omega
theorem itoa_len (n : Int) (h0 : 0 ≤ n) (k : Nat) (h : n < ((10 ^ (k + 1) : Nat) : Int)) : (Lib.itoa n).length ≤ k + 1 := by
  obtain ⟨u, rfl⟩ := Int.eq_ofNat_of_zero_le h0
  rw [Lib.itoa_nonneg, Lib.decDigits_length]
  exact nDigits_le k u (by omega)
theorem dig_of (d : Nat) (h : d < 10) : isDig (UInt8.ofNat (48 + d)) = true := by
  unfold isDig
  have : (UInt8.ofNat (48 + d)).toNat = 48 + d := by rw [UInt8.toNat_ofNat']; omega
  rw [this]; simp; omega
theorem dec_digs (u : Nat) : (Lib.decDigits u).all isDig = true := by
  induction u using Nat.strongRecOn with
  | _ u ih =>
    rw [Lib.decDigits]
    split
    · rename_i h; rw [List.all_cons, dig_of u h]; rfl
    · rename_i h
      rw [List.all_append, ih (u / 10) (by omega), List.all_cons, dig_of (u % 10) (by omega)]; rfl
theorem pad_digs (n : Int) (h0 : 0 ≤ n) (w : Nat) : allB isDig (padB n w) = true := by
  obtain ⟨u, rfl⟩ := Int.eq_ofNat_of_zero_le h0
  unfold allB padB padL
  rw [Lib.itoa_nonneg]
  simp only [List.all_append, dec_digs, Bool.and_true]
  rw [List.all_eq_true]
  intro x hx
  rw [List.eq_of_mem_replicate hx]
  decide
theorem pad_size (n : Int) (w : Nat) (h : (Lib.itoa n).length ≤ w) : (padB n w).size = w := by
  simp [padB, padL, ByteArray.size]; omega

def makeS (owner : ByteArray) (n : Int) : ByteArray := owner ++ padB n 6
def makeB (owner : ByteArray) (n : Int) : ByteArray := makeS owner n ++ padB (sumB (makeS owner n)) 2
theorem append_list (a b : ByteArray) : (a ++ b).data.toList = a.data.toList ++ b.data.toList := by
  rw [ByteArray.data_append, Array.toList_append]
theorem bytes_ext {a b : ByteArray} (h : a.data.toList = b.data.toList) : a = b := ByteArray.ext (Array.toList_inj.1 h)
theorem size_list (a : ByteArray) : a.data.toList.length = a.size := rfl
theorem extract_left (a b : ByteArray) (k : Nat) (h : k = a.size) : (a ++ b).extract 0 k = a := by
  apply bytes_ext
  rw [extract_list, append_list, List.drop_zero, h, ← size_list, List.take_left']
  rfl
theorem extract_right (a b : ByteArray) (k m : Nat) (h : k = a.size) (hm : m = a.size + b.size) : (a ++ b).extract k m = b := by
  apply bytes_ext
  rw [extract_list, append_list, List.take_of_length_le (by rw [List.length_append, size_list, size_list]; omega), h, ← size_list, List.drop_left']
  rfl
theorem makeS_head (owner : ByteArray) (n : Int) (h4 : owner.size = 4) (hl : allB isLow owner = true) (h0 : 0 ≤ n) (h1 : n ≤ 999999) : headB (makeS owner n) = true := by
  have hp := pad_size n 6 (itoa_len n h0 5 (by omega))
  have hs : (makeS owner n).size = 10 := by simp [makeS, h4, hp]
  unfold headB
  rw [hs]
  unfold makeS
  rw [extract_left _ _ 4 h4.symm, hl, extract_right _ _ 4 10 h4.symm (by omega), pad_digs n h0]
  rfl
theorem sumB_range (a : ByteArray) (h : headB a = true) : 0 ≤ sumB a ∧ sumB a ≤ 96 := by
  unfold sumB
  rw [if_pos h]
  omega

set_option maxHeartbeats 4000000 in
theorem Make_any (owner : ByteArray) (n : Int) (hs : owner.size ≤ 9223372036854775807) (w : World) (hT : TB w) :
    Calls Tryd.prog 12 #[.string owner, .int .i64 n] w fun e w' =>
      e = .returned (.tuple (if owner.size = 4 ∧ allB isLow owner = true then (if 0 ≤ n ∧ n ≤ 999999 then #[.string (makeB owner n), .int .i64 0] else #[.string ⟨#[]⟩, .int .i64 3]) else #[.string ⟨#[]⟩, .int .i64 1])) ∧ Below w.heap.size w w' := by
  by_cases h4 : owner.size = 4
  · have c1 := fun w => all_lower owner hs w
    have b4 : ((owner.size : Int) != 4) = false := by simp [h4]
    cases hl : allB isLow owner
    · rw [hl] at c1
      rw [if_neg (by simp)]
      clear h4
      go_enter Tryd.func12, Tryd.ntmps12
      go_wp2_with fail
      refine (c1 _).mono ?_
      rintro e w' ⟨rfl, rfl⟩
      go_wp2_with fail
      go_ret2
      exact ⟨rfl, Below.refl _ _⟩
    · rw [hl] at c1
      rw [if_pos ⟨h4, rfl⟩]
      by_cases h0 : 0 ≤ n
      · by_cases h1 : n ≤ 999999
        · rw [if_pos ⟨h0, h1⟩]
          have hh := makeS_head owner n h4 hl h0 h1
          obtain ⟨r0, r1⟩ := sumB_range _ hh
          have hp6 := pad_size n 6 (itoa_len n h0 5 (by omega))
          have hms : (makeS owner n).size = 10 := by simp [makeS, h4, hp6]
          have c2 := padded_any n h0 h1 6 (by omega) (itoa_len n h0 5 (by omega))
          have c3 := fun w => Sum_any (makeS owner n) (by omega) w
          have c4 := padded_any (sumB (makeS owner n)) r0 (by omega) 2 (by omega) (itoa_len _ r0 1 (by omega))
          have hp2 := pad_size (sumB (makeS owner n)) 2 (itoa_len _ r0 1 (by omega))
          have l6 : owner.size + (padB n 6).size ≤ 9223372036854775807 := by omega
          have hM : Hid (makeB owner n = makeS owner n ++ padB (sumB (makeS owner n)) 2) := rfl
          have hS : Hid (owner ++ padB n 6 = makeS owner n) := rfl
          generalize makeB owner n = MB at *
          have l2 : (makeS owner n).size + (padB (sumB (makeS owner n)) 2).size ≤ 9223372036854775807 := by omega
          generalize hg1 : padB (sumB (makeS owner n)) 2 = P2 at *
          generalize hg2 : sumB (makeS owner n) = SM at *
          generalize hg3 : padB n 6 = P6 at *
          clear hp6 hms hp2 h4 hg1 hg2 hg3 hh
          go_enter Tryd.func12, Tryd.ntmps12
          go_wp2_with fail
          refine (c1 _).mono ?_
          rintro e w' ⟨rfl, rfl⟩
          go_wp2_with fail
          refine (c2 _ hT).mono ?_
          rintro e w1 ⟨rfl, hb1⟩
          go_wp2_with fail
          rw [hS.out]
          refine (c3 _).mono ?_
          rintro e w' ⟨rfl, rfl⟩
          go_wp2_with fail
          refine (c4 _ (hT.below hb1)).mono ?_
          rintro e w2 ⟨rfl, hb2⟩
          go_wp2_with fail
          go_ret2
          exact ⟨by rw [hM.out]; rfl, hb1.trans (hb2.mono hb1.size)⟩
        · rw [if_neg (by omega)]
          have h1' : 1000000 ≤ n := by omega
          go_enter Tryd.func12, Tryd.ntmps12
          go_wp2_with fail
          refine (c1 _).mono ?_
          rintro e w' ⟨rfl, rfl⟩
          go_wp2_with fail
          go_ret2
          exact ⟨rfl, Below.refl _ _⟩
      · rw [if_neg (by omega)]
        have h0' : n < 0 := by omega
        go_enter Tryd.func12, Tryd.ntmps12
        go_wp2_with fail
        refine (c1 _).mono ?_
        rintro e w' ⟨rfl, rfl⟩
        go_wp2_with fail
        go_ret2
        exact ⟨rfl, Below.refl _ _⟩
  · rw [if_neg (by simp [h4])]
    have b4 : ((owner.size : Int) != 4) = true := by rw [bne_iff_ne]; omega
    go_enter Tryd.func12, Tryd.ntmps12
    go_wp2_with fail
    go_ret2
    exact ⟨rfl, Below.refl _ _⟩
end Go.Proofs.YtkfcllapmkeihaaDoor.Ext
