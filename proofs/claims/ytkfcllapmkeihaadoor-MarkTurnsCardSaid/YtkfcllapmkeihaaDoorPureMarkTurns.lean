/- MarkTurns' pure statement. -/
import Derived.Test.YtkfcllapmkeihaaDoorRefC
import Derived.Test.YtkfcllapmkeihaaDoorXx2
namespace Go.Proofs.YtkfcllapmkeihaaDoor.Pure
open Go.RowKit Go.Proofs.YtkfcllapmkeihaaDoor.X Go.Proofs.YtkfcllapmkeihaaDoor.Ext Go.Proofs.YtkfcllapmkeihaaDoor.Ref Go.Proofs.YtkfcllapmkeihaaDoorW.PrintWords
theorem sgn_lt (s t : ByteArray) (k : Nat) (h : k < s.size) : sgn (s ++ t) k = sgn s k := by
  unfold sgn
  rw [append_list, List.getD_eq_getElem?_getD, List.getD_eq_getElem?_getD, List.getElem?_append_left (by rw [size_list]; omega)]
theorem sgn_ge (s t : ByteArray) (k : Nat) (h : s.size ≤ k) : sgn (s ++ t) k = sgn t (k - s.size) := by
  unfold sgn
  rw [append_list, List.getD_eq_getElem?_getD, List.getD_eq_getElem?_getD, List.getElem?_append_right (by rw [size_list]; omega), size_list]
theorem toList_iff {a b : ByteArray} : a.toList = b.toList ↔ a = b := by
  rw [ByteArray.toList_eq, ByteArray.toList_eq]
  exact ⟨bytes_ext, fun h => by rw [h]⟩
/-- A text with two neighbours changed about. -/
def turn (s : ByteArray) (i : Nat) : ByteArray := s.extract 0 i ++ strOfNums [bt s ((i + 1 : Nat) : Int), bt s (i : Int)] ++ s.extract (i + 2) s.size
theorem byte_back (c : UInt8) : UInt8.ofNat ((c.toNat : Int).toNat) = c := by simp
theorem turn_size (s : ByteArray) (i : Nat) (h : i + 2 ≤ s.size) : (turn s i).size = s.size := by
  unfold turn
  rw [ByteArray.size_append, ByteArray.size_append, strOfNums_size]
  simp
  omega
theorem turn_sgn (s : ByteArray) (i : Nat) (h : i + 2 ≤ s.size) (j : Nat) (hj : j < s.size) : sgn (turn s i) j = if j = i then sgn s (i + 1) else if j = i + 1 then sgn s i else sgn s j := by
  have h1 : (s.extract 0 i).size = i := by simp; omega
  have h2 : (s.extract 0 i ++ strOfNums [bt s ((i + 1 : Nat) : Int), bt s (i : Int)]).size = i + 2 := by rw [ByteArray.size_append, h1, strOfNums_size]; rfl
  unfold turn
  by_cases c1 : j < i
  · rw [sgn_lt _ _ _ (by omega), sgn_lt _ _ _ (by omega), sgn_extract s 0 i j (by omega) (by omega), Nat.zero_add, if_neg (by omega), if_neg (by omega)]
  · by_cases c2 : j < i + 2
    · rw [sgn_lt _ _ _ (by omega), sgn_ge _ _ _ (by omega), h1]
      unfold sgn
      rw [strOfNums_data]
      obtain rfl | rfl : j = i ∨ j = i + 1 := by omega
      · rw [if_pos rfl, Nat.sub_self, bt_sgn, bt_sgn]
        simp only [List.map_cons, List.map_nil, List.getD_cons_zero]
        rw [byte_back]; rfl
      · rw [if_neg (by omega), if_pos rfl, show i + 1 - i = 1 by omega, bt_sgn, bt_sgn]
        simp only [List.map_cons, List.map_nil, List.getD_cons_succ, List.getD_cons_zero]
        rw [byte_back]; rfl
    · rw [sgn_ge _ _ _ (by omega), h2, sgn_extract s (i + 2) s.size (j - (i + 2)) (by omega) (by omega), if_neg (by omega), if_neg (by omega)]
      congr 1
      omega
theorem turn_right {s : ByteArray} (h : rightB s = true) (i : Nat) (hi : i ≤ 10) : rightB (turn s i) = true ↔ s = turn s i := by
  have h12 := right_size h
  have hz := turn_size s i (by omega)
  have hs := turn_sgn s i (by omega)
  constructor
  · intro ht
    have hi' := hs i (by omega)
    have hi1 := hs (i + 1) (by omega)
    rw [if_pos rfl] at hi'
    rw [if_neg (by omega), if_pos rfl] at hi1
    have r1 := right_sign h
    have r2 := right_sign ht
    by_cases h3 : i = 3
    · subst h3
      have a := r2 3 (by omega)
      have b := r1 4 (by omega)
      rw [if_pos (by omega), hi'] at a
      rw [if_neg (by omega)] at b
      rw [low_not_dig b] at a
      cases a
    · have he : valI (sgn s i) = valI (sgn s (i + 1)) :=
        turned (worth h) (worth ht) i hi h3 (by show valI (sgn (turn s i) i) = _; rw [hi']) (by show valI (sgn (turn s i) (i + 1)) = _; rw [hi1]) (fun j hj n1 n2 => by show valI (sgn (turn s i) j) = _; rw [hs j (by omega), if_neg n1, if_neg n2])
      have e : sgn s i = sgn s (i + 1) := by
        refine val_inj i (r1 i (by omega)) ?_ he
        have := r2 i (by omega)
        rwa [hi'] at this
      refine ext_sgn hz.symm fun j hj => ?_
      rw [hs j hj]
      split
      · rename_i c; rw [c, e]
      · split
        · rename_i c; rw [c, e]
        · rfl
  · intro e
    rw [← e]
    exact h
theorem MarkTurns (a0 : ByteArray) (a1 a2 : Int) (w0 : a0.size ≤ 9223372036854775807) (_ : (Lit.int .i64 a1).wf = true) (_ : (Lit.int .i64 a2).wf = true) : supercargolaw03_MarkTurns.f a0 a1 a2 = some true := by
  unfold supercargolaw03_MarkTurns.f
  rw [awake_f]
  simp only [Option.bind_some]
  rw [if_pos trivial]
  rcases make_cases a0 a1 w0 with ⟨g, e⟩ | ⟨_, c, hc, e⟩
  · rw [e]
    simp only [Option.bind_some]
    rw [if_pos trivial]
    by_cases c1 : a2 < 0
    · rw [if_pos c1]
    rw [if_neg c1]
    by_cases c2 : a2 > 10
    · rw [if_pos c2]
    rw [if_neg c2]
    obtain ⟨i, rfl⟩ : ∃ i : Nat, a2 = i := ⟨a2.toNat, by omega⟩
    have hz := makeB_size g
    have hr := make_right g
    have e1 : wrap64 ((i : Int) + 1) = ((i + 1 : Nat) : Int) := by rw [w64 (by omega) (by omega)]; omega
    have e2 : wrap64 ((i : Int) + 2) = ((i + 2 : Nat) : Int) := by rw [w64 (by omega) (by omega)]; omega
    rw [if_pos (by omega), if_pos (by omega), e1, if_pos (by omega), if_pos (by omega), if_pos (by omega), if_pos (by rw [strOfNums_size]; simp; omega), e2, if_pos (by omega), if_pos (by omega), if_pos (by rw [strOfNums_size]; simp; omega)]
    simp only [Int.toNat_natCast]
    have ht := turn_right hr i (by omega)
    have htz := turn_size (makeB a0 a1) i (by omega)
    rw [show (makeB a0 a1).extract 0 i ++ strOfNums [bt (makeB a0 a1) ((i + 1 : Nat) : Int), bt (makeB a0 a1) (i : Int)] ++ (makeB a0 a1).extract (i + 2) (makeB a0 a1).size = turn (makeB a0 a1) i from rfl]
    unfold mark_Right.f
    rw [if_pos (by omega)]
    simp only [Option.bind_some]
    congr 1
    rw [beq_iff_eq, Bool.eq_iff_iff, beq_iff_eq, toList_iff]
    exact ht
  · rw [e]
    simp only [Option.bind_some]
    rw [if_neg hc, ByteArray.toList_eq]
    rfl
end Go.Proofs.YtkfcllapmkeihaaDoor.Pure
