-- Written by wip/xprint.py (this session) over the kit's print.py
import Derived.Test.YtkfcllapmkeihaaDoorXx0
import Derived.Test.YtkfcllapmkeihaaDoorXx1
namespace Go.Proofs.YtkfcllapmkeihaaDoor.X
open Go.RowKit Go.Proofs.YtkfcllapmkeihaaDoor.Ext Go.Proofs.YtkfcllapmkeihaaDoorW.PrintWords Go.Proofs.YtkfcllapmkeihaaDoorW.PrintLast Go.Proofs.YtkfcllapmkeihaaDoorW.PrintMore
attribute [local go_sem] max2_int min2_int max_two min_two max_three min_three max_four min_four   -- for this text's walks alone
set_option linter.unusedVariables false
set_option linter.unusedSimpArgs false

/-! ### supercargolaw03_MarkTurns: function 4 -/
def supercargolaw03_MarkTurns.f (a0 : ByteArray) (a1 : Int) (a2 : Int) : Option (Bool) := (supercargolaw03_awake.f).bind fun t122 => (if t122 = true then ((mark_Make.f a0 a1).bind fun bt123 => (if bt123.2 = 0 then (if a2 < 0 then (some true) else (if a2 > 10 then (some true) else (if 0 ≤ a2 then (if a2 ≤ (bt123.1.size : Int) then (if 0 ≤ (wrap64 (a2 + 1)) then (if (wrap64 (a2 + 1)) < (bt123.1.size : Int) then (if a2 < (bt123.1.size : Int) then ((some (([bt bt123.1 (wrap64 (a2 + 1)), bt bt123.1 a2] : List Int) : List Int)).bind fun y125 => (if (a2 : Int).toNat + (strOfNums y125).size ≤ 9223372036854775807 then (if 0 ≤ (wrap64 (a2 + 2)) then (if (wrap64 (a2 + 2)) ≤ (bt123.1.size : Int) then (if (a2 : Int).toNat + (strOfNums y125).size + (bt123.1.size - ((wrap64 (a2 + 2)) : Int).toNat) ≤ 9223372036854775807 then ((mark_Right.f (((bt123.1.extract 0 (a2 : Int).toNat) ++ (strOfNums y125)) ++ (bt123.1.extract ((wrap64 (a2 + 2)) : Int).toNat bt123.1.size))).bind fun t128 => (some (t128 == (bt123.1.toList == (((bt123.1.extract 0 (a2 : Int).toNat) ++ (strOfNums y125)) ++ (bt123.1.extract ((wrap64 (a2 + 2)) : Int).toNat bt123.1.size)).toList)))) else (none)) else (none)) else (none)) else (none))) else (none)) else (none)) else (none)) else (none)) else (none)))) else (some (bt123.1.toList == ([] : List UInt8))))) else (some false))
def supercargolaw03_MarkTurns.T6 : Bool × List (List Nat × List Nat) := (true, [([], []), ([], []), ([0, 1], [0, 1]), ([], []), ([], []), ([4], [4]), ([3, 5], [3, 5]), ([], []), ([], []), ([7, 8], [7, 8]), ([6, 9], [6, 9]), ([10], [10]), ([2, 11], [2, 11]), ([], []), ([], []), ([14], [14]), ([13, 15], [13, 15]), ([12, 16], [12, 16]), ([17, 0, 1, 2, 3, 4, 5, 6, 7, 8, 9, 10, 11, 12, 13, 14, 15, 16, 17], [17])])
def supercargolaw03_MarkTurns.B6 : List Nat := [0, 0, 3, 0, 0, 16, 56, 0, 0, 384, 1016, 2040, 4095, 0, 0, 16384, 57344, 131071, 262143]
theorem supercargolaw03_MarkTurns.tab6 : rtab .any (opsOf Tryd.f4 6) = supercargolaw03_MarkTurns.T6 := by kernel_rfl
theorem supercargolaw03_MarkTurns.bits6 : waitsOk supercargolaw03_MarkTurns.T6.2 supercargolaw03_MarkTurns.B6 = true := by kernel_rfl
set_option maxHeartbeats 8000000 in
set_option maxRecDepth 100000 in
theorem supercargolaw03_MarkTurns.calls (a0 : ByteArray) (a1 : Int) (a2 : Int) (r : Bool) (w : World) (h : supercargolaw03_MarkTurns.f a0 a1 a2 = some r) (HT : TB w) :
    Calls Tryd.prog 4 #[.string a0, .int .i64 a1, .int .i64 a2] w fun e w' => e = .returned (.bool r) ∧ Below w.heap.size w w' := by
  have HB := Aside0.mk (Below.refl w.heap.size w)
  have H : ((supercargolaw03_awake.f).bind fun t122 => (if t122 = true then ((mark_Make.f a0 a1).bind fun bt123 => (if bt123.2 = 0 then (if a2 < 0 then (some true) else (if a2 > 10 then (some true) else (if 0 ≤ a2 then (if a2 ≤ (bt123.1.size : Int) then (if 0 ≤ (wrap64 (a2 + 1)) then (if (wrap64 (a2 + 1)) < (bt123.1.size : Int) then (if a2 < (bt123.1.size : Int) then ((some (([bt bt123.1 (wrap64 (a2 + 1)), bt bt123.1 a2] : List Int) : List Int)).bind fun y125 => (if (a2 : Int).toNat + (strOfNums y125).size ≤ 9223372036854775807 then (if 0 ≤ (wrap64 (a2 + 2)) then (if (wrap64 (a2 + 2)) ≤ (bt123.1.size : Int) then (if (a2 : Int).toNat + (strOfNums y125).size + (bt123.1.size - ((wrap64 (a2 + 2)) : Int).toNat) ≤ 9223372036854775807 then ((mark_Right.f (((bt123.1.extract 0 (a2 : Int).toNat) ++ (strOfNums y125)) ++ (bt123.1.extract ((wrap64 (a2 + 2)) : Int).toNat bt123.1.size))).bind fun t128 => (some (t128 == (bt123.1.toList == (((bt123.1.extract 0 (a2 : Int).toNat) ++ (strOfNums y125)) ++ (bt123.1.extract ((wrap64 (a2 + 2)) : Int).toNat bt123.1.size)).toList)))) else (none)) else (none)) else (none)) else (none))) else (none)) else (none)) else (none)) else (none)) else (none)))) else (some (bt123.1.toList == ([] : List UInt8))))) else (some false))) = some r := h
  clear h
  replace H := Option.bind_eq_some_iff.mp H
  obtain ⟨t122, A40, H⟩ := H
  replace H : (if t122 = true then ((mark_Make.f a0 a1).bind fun bt123 => (if bt123.2 = 0 then (if a2 < 0 then (some true) else (if a2 > 10 then (some true) else (if 0 ≤ a2 then (if a2 ≤ (bt123.1.size : Int) then (if 0 ≤ (wrap64 (a2 + 1)) then (if (wrap64 (a2 + 1)) < (bt123.1.size : Int) then (if a2 < (bt123.1.size : Int) then ((some (([bt bt123.1 (wrap64 (a2 + 1)), bt bt123.1 a2] : List Int) : List Int)).bind fun y125 => (if (a2 : Int).toNat + (strOfNums y125).size ≤ 9223372036854775807 then (if 0 ≤ (wrap64 (a2 + 2)) then (if (wrap64 (a2 + 2)) ≤ (bt123.1.size : Int) then (if (a2 : Int).toNat + (strOfNums y125).size + (bt123.1.size - ((wrap64 (a2 + 2)) : Int).toNat) ≤ 9223372036854775807 then ((mark_Right.f (((bt123.1.extract 0 (a2 : Int).toNat) ++ (strOfNums y125)) ++ (bt123.1.extract ((wrap64 (a2 + 2)) : Int).toNat bt123.1.size))).bind fun t128 => (some (t128 == (bt123.1.toList == (((bt123.1.extract 0 (a2 : Int).toNat) ++ (strOfNums y125)) ++ (bt123.1.extract ((wrap64 (a2 + 2)) : Int).toNat bt123.1.size)).toList)))) else (none)) else (none)) else (none)) else (none))) else (none)) else (none)) else (none)) else (none)) else (none)))) else (some (bt123.1.toList == ([] : List UInt8))))) else (some false)) = some r := H
  have A4 := Aside0.mk A40
  clear A40
  by_cases c5 : t122 = true
  · subst c5
    have H1 : ((mark_Make.f a0 a1).bind fun bt123 => (if bt123.2 = 0 then (if a2 < 0 then (some true) else (if a2 > 10 then (some true) else (if 0 ≤ a2 then (if a2 ≤ (bt123.1.size : Int) then (if 0 ≤ (wrap64 (a2 + 1)) then (if (wrap64 (a2 + 1)) < (bt123.1.size : Int) then (if a2 < (bt123.1.size : Int) then ((some (([bt bt123.1 (wrap64 (a2 + 1)), bt bt123.1 a2] : List Int) : List Int)).bind fun y125 => (if (a2 : Int).toNat + (strOfNums y125).size ≤ 9223372036854775807 then (if 0 ≤ (wrap64 (a2 + 2)) then (if (wrap64 (a2 + 2)) ≤ (bt123.1.size : Int) then (if (a2 : Int).toNat + (strOfNums y125).size + (bt123.1.size - ((wrap64 (a2 + 2)) : Int).toNat) ≤ 9223372036854775807 then ((mark_Right.f (((bt123.1.extract 0 (a2 : Int).toNat) ++ (strOfNums y125)) ++ (bt123.1.extract ((wrap64 (a2 + 2)) : Int).toNat bt123.1.size))).bind fun t128 => (some (t128 == (bt123.1.toList == (((bt123.1.extract 0 (a2 : Int).toNat) ++ (strOfNums y125)) ++ (bt123.1.extract ((wrap64 (a2 + 2)) : Int).toNat bt123.1.size)).toList)))) else (none)) else (none)) else (none)) else (none))) else (none)) else (none)) else (none)) else (none)) else (none)))) else (some (bt123.1.toList == ([] : List UInt8))))) = some r := by rw [if_pos rfl] at H; exact H
    clear H
    have H := H1
    clear H1
    replace H := Option.bind_eq_some_iff.mp H
    obtain ⟨⟨t123, t124⟩, A60, H⟩ := H
    replace H : (if t124 = 0 then (if a2 < 0 then (some true) else (if a2 > 10 then (some true) else (if 0 ≤ a2 then (if a2 ≤ (t123.size : Int) then (if 0 ≤ (wrap64 (a2 + 1)) then (if (wrap64 (a2 + 1)) < (t123.size : Int) then (if a2 < (t123.size : Int) then ((some (([bt t123 (wrap64 (a2 + 1)), bt t123 a2] : List Int) : List Int)).bind fun y125 => (if (a2 : Int).toNat + (strOfNums y125).size ≤ 9223372036854775807 then (if 0 ≤ (wrap64 (a2 + 2)) then (if (wrap64 (a2 + 2)) ≤ (t123.size : Int) then (if (a2 : Int).toNat + (strOfNums y125).size + (t123.size - ((wrap64 (a2 + 2)) : Int).toNat) ≤ 9223372036854775807 then ((mark_Right.f (((t123.extract 0 (a2 : Int).toNat) ++ (strOfNums y125)) ++ (t123.extract ((wrap64 (a2 + 2)) : Int).toNat t123.size))).bind fun t128 => (some (t128 == (t123.toList == (((t123.extract 0 (a2 : Int).toNat) ++ (strOfNums y125)) ++ (t123.extract ((wrap64 (a2 + 2)) : Int).toNat t123.size)).toList)))) else (none)) else (none)) else (none)) else (none))) else (none)) else (none)) else (none)) else (none)) else (none)))) else (some (t123.toList == ([] : List UInt8)))) = some r := H
    have A6 := Aside0.mk A60
    clear A60
    by_cases c7 : t124 = 0
    · rw [if_pos c7] at H
      have c7b0 : (t124 == 0) = true := beq_iff_eq.mpr c7
      have c7b1 : (t124 != 0) = false := bne_eq_false_iff_eq.mpr c7
      clear c7
      by_cases c8 : a2 < 0
      · rw [if_pos c8] at H
        have c8b0 : decide (a2 < 0) = true := decide_eq_true c8
        clear c8
        obtain rfl := Option.some.inj H
        go_enter Tryd.func4, Tryd.ntmps4
        go_wp2_with (first | ((with_reducible refine gate_callee (f := 11) rfl ?_); refine goesL_ (some 10) rfl rfl Tryd.func11 (by kernel_rfl) rfl #[] rfl (by (try simp only [List.map_toArray, List.map_cons, List.map_nil]); first | done | rfl | (simp only [List.length_drop, List.length_take]; rfl)) ?_; (with_reducible refine (supercargolaw03_awake.calls  true _ A4.out (TB.below HT (by repeat (first | (with_reducible first | exact HB.out | apply below_alloc | apply pw_below_drewN | apply below_drew1) | exact HB.out)))).mono ?_); rintro e w9 ⟨rfl, hb⟩; refine ⟨_, rfl, ?_⟩; have n0_ := Aside0.mk (below_step (by repeat (first | (with_reducible first | exact HB.out | apply below_alloc | apply pw_below_drewN | apply below_drew1) | exact HB.out)) hb); clear HB; have HB := n0_; clear n0_; (try clear hb); (try clear hb2); (try clear hk); (try clear hi)) | ((with_reducible refine gate_callee (f := 12) rfl ?_); refine goesL_ (some 15) rfl rfl Tryd.func12 (by kernel_rfl) rfl #[.string a0, .int .i64 a1] rfl (by (try simp only [List.map_toArray, List.map_cons, List.map_nil]); first | done | rfl | (simp only [List.length_drop, List.length_take]; rfl)) ?_; (with_reducible refine (mark_Make.calls a0 a1 t123 t124 _ A6.out (TB.below HT (by repeat (first | (with_reducible first | exact HB.out | apply below_alloc | apply pw_below_drewN | apply below_drew1) | exact HB.out)))).mono ?_); rintro e w10 ⟨rfl, hb⟩; refine ⟨_, rfl, ?_⟩; have n0_ := Aside0.mk (below_step (by repeat (first | (with_reducible first | exact HB.out | apply below_alloc | apply pw_below_drewN | apply below_drew1) | exact HB.out)) hb); clear HB; have HB := n0_; clear n0_; (try clear hb); (try clear hb2); (try clear hk); (try clear hi)))
        go_ret
        exact ⟨by first | rfl | (simp [errW_none, errW_some] <;> rfl) | (simp [*, errW_none, errW_some] <;> rfl), by repeat (first | (with_reducible first | exact HB.out | apply below_alloc | apply pw_below_drewN | apply below_drew1) | exact HB.out)⟩
      · rw [if_neg c8] at H
        have c8b0 : decide (a2 < 0) = false := decide_eq_false c8
        clear c8
        by_cases c11 : a2 > 10
        · rw [if_pos c11] at H
          have c11b0 : decide (10 < a2) = true := decide_eq_true c11
          clear c11
          obtain rfl := Option.some.inj H
          go_enter Tryd.func4, Tryd.ntmps4
          go_wp2_with (first | ((with_reducible refine gate_callee (f := 11) rfl ?_); refine goesL_ (some 10) rfl rfl Tryd.func11 (by kernel_rfl) rfl #[] rfl (by (try simp only [List.map_toArray, List.map_cons, List.map_nil]); first | done | rfl | (simp only [List.length_drop, List.length_take]; rfl)) ?_; (with_reducible refine (supercargolaw03_awake.calls  true _ A4.out (TB.below HT (by repeat (first | (with_reducible first | exact HB.out | apply below_alloc | apply pw_below_drewN | apply below_drew1) | exact HB.out)))).mono ?_); rintro e w12 ⟨rfl, hb⟩; refine ⟨_, rfl, ?_⟩; have n0_ := Aside0.mk (below_step (by repeat (first | (with_reducible first | exact HB.out | apply below_alloc | apply pw_below_drewN | apply below_drew1) | exact HB.out)) hb); clear HB; have HB := n0_; clear n0_; (try clear hb); (try clear hb2); (try clear hk); (try clear hi)) | ((with_reducible refine gate_callee (f := 12) rfl ?_); refine goesL_ (some 15) rfl rfl Tryd.func12 (by kernel_rfl) rfl #[.string a0, .int .i64 a1] rfl (by (try simp only [List.map_toArray, List.map_cons, List.map_nil]); first | done | rfl | (simp only [List.length_drop, List.length_take]; rfl)) ?_; (with_reducible refine (mark_Make.calls a0 a1 t123 t124 _ A6.out (TB.below HT (by repeat (first | (with_reducible first | exact HB.out | apply below_alloc | apply pw_below_drewN | apply below_drew1) | exact HB.out)))).mono ?_); rintro e w13 ⟨rfl, hb⟩; refine ⟨_, rfl, ?_⟩; have n0_ := Aside0.mk (below_step (by repeat (first | (with_reducible first | exact HB.out | apply below_alloc | apply pw_below_drewN | apply below_drew1) | exact HB.out)) hb); clear HB; have HB := n0_; clear n0_; (try clear hb); (try clear hb2); (try clear hk); (try clear hi)))
          go_ret
          exact ⟨by first | rfl | (simp [errW_none, errW_some] <;> rfl) | (simp [*, errW_none, errW_some] <;> rfl), by repeat (first | (with_reducible first | exact HB.out | apply below_alloc | apply pw_below_drewN | apply below_drew1) | exact HB.out)⟩
        · rw [if_neg c11] at H
          have c11b0 : decide (10 < a2) = false := decide_eq_false c11
          clear c11
          by_cases c14 : 0 ≤ a2
          · rw [if_pos c14] at H
            have c14b0 := eq_true c14
            have c14b1 : decide (0 ≤ a2) = true := decide_eq_true c14
            clear c14
            by_cases c15 : a2 ≤ (t123.size : Int)
            · rw [if_pos c15] at H
              have c15b0 := eq_true c15
              have c15b1 : decide (a2 ≤ (t123.size : Int)) = true := decide_eq_true c15
              clear c15
              obtain ⟨ji16, hji16⟩ : ∃ j_ : Int, (wrap64 (a2 + 1)) = j_ := ⟨_, rfl⟩
              replace H : (if 0 ≤ (ji16) then (if (ji16) < (t123.size : Int) then (if a2 < (t123.size : Int) then ((some (([bt t123 (ji16), bt t123 a2] : List Int) : List Int)).bind fun y125 => (if (a2 : Int).toNat + (strOfNums y125).size ≤ 9223372036854775807 then (if 0 ≤ (wrap64 (a2 + 2)) then (if (wrap64 (a2 + 2)) ≤ (t123.size : Int) then (if (a2 : Int).toNat + (strOfNums y125).size + (t123.size - ((wrap64 (a2 + 2)) : Int).toNat) ≤ 9223372036854775807 then ((mark_Right.f (((t123.extract 0 (a2 : Int).toNat) ++ (strOfNums y125)) ++ (t123.extract ((wrap64 (a2 + 2)) : Int).toNat t123.size))).bind fun t128 => (some (t128 == (t123.toList == (((t123.extract 0 (a2 : Int).toNat) ++ (strOfNums y125)) ++ (t123.extract ((wrap64 (a2 + 2)) : Int).toNat t123.size)).toList)))) else (none)) else (none)) else (none)) else (none))) else (none)) else (none)) else (none)) = some r := by first | (rw [hji16] at H; exact H) | (simp only [hji16] at H ⊢; exact H)
              (try rw [hji16] at A4)
              (try rw [hji16] at A6)
              have hji16w : (IntKind.i64.wrap (a2 + 1)) = ji16 := (i64_w _).trans hji16
              by_cases c17 : 0 ≤ (ji16)
              · rw [if_pos c17] at H
                have c17b0 : decide (0 ≤ (ji16)) = true := decide_eq_true c17
                clear c17
                by_cases c18 : (ji16) < (t123.size : Int)
                · rw [if_pos c18] at H
                  have c18b0 : decide ((ji16) < (t123.size : Int)) = true := decide_eq_true c18
                  clear c18
                  by_cases c20 : a2 < (t123.size : Int)
                  · rw [if_pos c20] at H
                    have c20b0 : decide (a2 < (t123.size : Int)) = true := decide_eq_true c20
                    clear c20
                    obtain ⟨y125, hy125⟩ : ∃ y_ : List Int, y_ = (([bt t123 (ji16), bt t123 a2] : List Int)) := ⟨_, rfl⟩
                    replace H : (if (a2 : Int).toNat + (strOfNums y125).size ≤ 9223372036854775807 then (if 0 ≤ (wrap64 (a2 + 2)) then (if (wrap64 (a2 + 2)) ≤ (t123.size : Int) then (if (a2 : Int).toNat + (strOfNums y125).size + (t123.size - ((wrap64 (a2 + 2)) : Int).toNat) ≤ 9223372036854775807 then ((mark_Right.f (((t123.extract 0 (a2 : Int).toNat) ++ (strOfNums y125)) ++ (t123.extract ((wrap64 (a2 + 2)) : Int).toNat t123.size))).bind fun t128 => (some (t128 == (t123.toList == (((t123.extract 0 (a2 : Int).toNat) ++ (strOfNums y125)) ++ (t123.extract ((wrap64 (a2 + 2)) : Int).toNat t123.size)).toList)))) else (none)) else (none)) else (none)) else (none)) = some r := by first | (rw [hy125]; with_reducible exact H) | (have H2_ := (Option.bind_some _ _).symm.trans H; rw [hy125]; with_reducible exact H2_) | (have H2_ := (Option.bind_some _ _).symm.trans H; with_reducible exact H2_) | with_reducible exact H | (rw [hy125]; exact H) | exact H
                    have Ny125 := Aside0.mk hy125
                    clear hy125
                    by_cases c22 : (a2 : Int).toNat + (strOfNums y125).size ≤ 9223372036854775807
                    · rw [if_pos c22] at H
                      have c22b0 := eq_true c22
                      have c22b1 : decide ((a2 : Int).toNat + (strOfNums y125).size ≤ 9223372036854775807) = true := decide_eq_true c22
                      try have c22b2 : (9223372036854775807 < (a2 : Int).toNat + (strOfNums y125).size) = False := eq_false (Nat.not_lt.2 c22)
                      obtain ⟨ji23, hji23⟩ : ∃ j_ : Int, (wrap64 (a2 + 2)) = j_ := ⟨_, rfl⟩
                      replace H : (if 0 ≤ (ji23) then (if (ji23) ≤ (t123.size : Int) then (if (a2 : Int).toNat + (strOfNums y125).size + (t123.size - ((ji23) : Int).toNat) ≤ 9223372036854775807 then ((mark_Right.f (((t123.extract 0 (a2 : Int).toNat) ++ (strOfNums y125)) ++ (t123.extract ((ji23) : Int).toNat t123.size))).bind fun t128 => (some (t128 == (t123.toList == (((t123.extract 0 (a2 : Int).toNat) ++ (strOfNums y125)) ++ (t123.extract ((ji23) : Int).toNat t123.size)).toList)))) else (none)) else (none)) else (none)) = some r := by first | (rw [hji23] at H; exact H) | (simp only [hji23] at H ⊢; exact H)
                      (try rw [hji23] at A4)
                      (try rw [hji23] at A6)
                      have hji23w : (IntKind.i64.wrap (a2 + 2)) = ji23 := (i64_w _).trans hji23
                      by_cases c24 : 0 ≤ (ji23)
                      · rw [if_pos c24] at H
                        have c24b0 := eq_true c24
                        have c24b1 : decide (0 ≤ (ji23)) = true := decide_eq_true c24
                        clear c24
                        by_cases c25 : (ji23) ≤ (t123.size : Int)
                        · rw [if_pos c25] at H
                          have c25b0 := eq_true c25
                          have c25b1 : decide ((ji23) ≤ (t123.size : Int)) = true := decide_eq_true c25
                          clear c25
                          by_cases c26 : (a2 : Int).toNat + (strOfNums y125).size + (t123.size - ((ji23) : Int).toNat) ≤ 9223372036854775807
                          · rw [if_pos c26] at H
                            have c26b0 := eq_true c26
                            have c26b1 : decide ((a2 : Int).toNat + (strOfNums y125).size + (t123.size - ((ji23) : Int).toNat) ≤ 9223372036854775807) = true := decide_eq_true c26
                            try have c26b2 : (9223372036854775807 < (a2 : Int).toNat + (strOfNums y125).size + (t123.size - ((ji23) : Int).toNat)) = False := eq_false (Nat.not_lt.2 c26)
                            replace H := Option.bind_eq_some_iff.mp H
                            obtain ⟨t128, A270, H⟩ := H
                            replace H : (some (t128 == (t123.toList == (((t123.extract 0 (a2 : Int).toNat) ++ (strOfNums y125)) ++ (t123.extract ((ji23) : Int).toNat t123.size)).toList))) = some r := H
                            have A27 := Aside0.mk A270
                            clear A270
                            obtain rfl := Option.some.inj H
                            go_enter Tryd.func4, Tryd.ntmps4
                            try go_wp2_with (first | ((with_reducible refine gate_callee (f := 11) rfl ?_); refine goesL_ (some 10) rfl rfl Tryd.func11 (by kernel_rfl) rfl #[] rfl (by (try simp only [List.map_toArray, List.map_cons, List.map_nil]); first | done | rfl | (simp only [List.length_drop, List.length_take]; rfl)) ?_; (with_reducible refine (supercargolaw03_awake.calls  true _ A4.out (TB.below HT (by repeat (first | (with_reducible first | exact HB.out | apply below_alloc | apply pw_below_drewN | apply below_drew1) | exact HB.out)))).mono ?_); rintro e w28 ⟨rfl, hb⟩; refine ⟨_, rfl, ?_⟩; have n0_ := Aside0.mk (below_step (by repeat (first | (with_reducible first | exact HB.out | apply below_alloc | apply pw_below_drewN | apply below_drew1) | exact HB.out)) hb); clear HB; have HB := n0_; clear n0_; (try clear hb); (try clear hb2); (try clear hk); (try clear hi)) | ((with_reducible refine gate_callee (f := 12) rfl ?_); refine goesL_ (some 15) rfl rfl Tryd.func12 (by kernel_rfl) rfl #[.string a0, .int .i64 a1] rfl (by (try simp only [List.map_toArray, List.map_cons, List.map_nil]); first | done | rfl | (simp only [List.length_drop, List.length_take]; rfl)) ?_; (with_reducible refine (mark_Make.calls a0 a1 t123 t124 _ A6.out (TB.below HT (by repeat (first | (with_reducible first | exact HB.out | apply below_alloc | apply pw_below_drewN | apply below_drew1) | exact HB.out)))).mono ?_); rintro e w29 ⟨rfl, hb⟩; refine ⟨_, rfl, ?_⟩; have n0_ := Aside0.mk (below_step (by repeat (first | (with_reducible first | exact HB.out | apply below_alloc | apply pw_below_drewN | apply below_drew1) | exact HB.out)) hb); clear HB; have HB := n0_; clear n0_; (try clear hb); (try clear hb2); (try clear hk); (try clear hi)))
                            have n0_ := Aside0.mk (below_drew1 HB.out)
                            clear HB
                            have HB := n0_
                            clear n0_
                            have p19 : 0 ≤ ((ji16) : Int) := of_decide_eq_true (by first | (with_reducible assumption) | assumption)
                            have q19 : (ji16) < (t123.size : Int) := of_decide_eq_true (by first | (with_reducible assumption) | assumption)
                            have hx19 := bt_at t123 (ji16)
                            replace p19 := eq_true p19
                            replace q19 := eq_true q19
                            have p21 : 0 ≤ (a2 : Int) := of_decide_eq_true (by first | (with_reducible assumption) | assumption)
                            have q21 : a2 < (t123.size : Int) := of_decide_eq_true (by first | (with_reducible assumption) | assumption)
                            have hx21 := bt_at t123 a2
                            replace p21 := eq_true p21
                            replace q21 := eq_true q21
                            refine start_ (n := 19) (S := fun w' => True) (ds := []) #[false, false, false, false, false, false, false, false, false, false, false, false, false, false, false, false, false, false, false] (by kernel_rfl) rfl rfl trivial (fun hHeld => ?_); refine with_tabW supercargolaw03_MarkTurns.tab6 supercargolaw03_MarkTurns.bits6 (fun HT_ HW_ => ?_)
                            generalize w29.drew = w30 at HB hHeld ⊢
                            refine pure_ (i := 0) (N := some 34) (v := ?_) (a' := ?_) #[true, false, false, false, false, false, false, false, false, false, false, false, false, false, false, false, false, false, false] rfl rfl (any_of HT_.out (by kernel_rfl)) (fun _ _ _ h => h) (Or.inl ⟨by rfl, ?_⟩) ?_ ?_
                            rotate_left
                            · intro w'
                              go_simp
                              with_reducible rfl
                            rotate_left
                            · simp only [Act.put, List.setIfInBounds_toArray, List.set_cons_zero, List.set_cons_succ, i64_w, i32_w]
                              rfl
                            refine pure_ (i := 1) (N := some 35) (v := ?_) (a' := ?_) #[true, true, false, false, false, false, false, false, false, false, false, false, false, false, false, false, false, false, false] rfl rfl (any_of HT_.out (by kernel_rfl)) (fun _ _ _ h => h) (Or.inl ⟨by rfl, ?_⟩) ?_ ?_
                            rotate_left
                            · intro w'
                              go_simp
                              with_reducible rfl
                            rotate_left
                            · simp only [Act.put, List.setIfInBounds_toArray, List.set_cons_zero, List.set_cons_succ, i64_w, i32_w]
                              rfl
                            refine pure_ (i := 2) (N := some 36) (v := ?_) (a' := ?_) #[true, true, true, false, false, false, false, false, false, false, false, false, false, false, false, false, false, false, false] rfl rfl (any_of HT_.out (by kernel_rfl)) (fun _ _ _ h => h) (Or.inl ⟨by rfl, ?_⟩) ?_ ?_
                            rotate_left
                            · intro w'
                              go_simp
                              with_reducible rfl
                            rotate_left
                            · simp only [Act.put, List.setIfInBounds_toArray, List.set_cons_zero, List.set_cons_succ, i64_w, i32_w]
                              rfl
                            refine pure_ (i := 3) (N := some 37) (v := ?_) (a' := ?_) #[true, true, true, true, false, false, false, false, false, false, false, false, false, false, false, false, false, false, false] rfl rfl (any_of HT_.out (by kernel_rfl)) (fun _ _ _ h => h) (Or.inl ⟨by rfl, ?_⟩) ?_ ?_
                            rotate_left
                            · intro w'
                              go_simp
                              with_reducible rfl
                            rotate_left
                            · simp only [Act.put, List.setIfInBounds_toArray, List.set_cons_zero, List.set_cons_succ, i64_w, i32_w]
                              rfl
                            refine pure_ (i := 4) (N := some 38) (v := ?_) (a' := ?_) #[true, true, true, true, true, false, false, false, false, false, false, false, false, false, false, false, false, false, false] rfl rfl (any_of HT_.out (by kernel_rfl)) (fun _ _ _ h => h) (Or.inl ⟨by rfl, ?_⟩) ?_ ?_
                            rotate_left
                            · intro w'
                              go_simp
                              with_reducible rfl
                            rotate_left
                            · simp only [Act.put, List.setIfInBounds_toArray, List.set_cons_zero, List.set_cons_succ, i64_w, i32_w]
                              rfl
                            refine pure_ (i := 5) (N := some 39) (v := ?_) (a' := ?_) #[true, true, true, true, true, true, false, false, false, false, false, false, false, false, false, false, false, false, false] rfl rfl (any_of HT_.out (by kernel_rfl)) (fun _ _ _ h => h) (Or.inl ⟨by rfl, ?_⟩) ?_ ?_
                            rotate_left
                            · intro w'
                              go_simp
                              with_reducible rfl
                            rotate_left
                            · simp only [Act.put, List.setIfInBounds_toArray, List.set_cons_zero, List.set_cons_succ, i64_w, i32_w]
                              rfl
                            refine pure_ (i := 7) (N := some 41) (v := ?_) (a' := ?_) #[true, true, true, true, true, true, false, true, false, false, false, false, false, false, false, false, false, false, false] rfl rfl (any_of HT_.out (by kernel_rfl)) (fun _ _ _ h => h) (Or.inl ⟨by rfl, ?_⟩) ?_ ?_
                            rotate_left
                            · intro w'
                              go_simp
                              with_reducible rfl
                            rotate_left
                            · simp only [Act.put, List.setIfInBounds_toArray, List.set_cons_zero, List.set_cons_succ, i64_w, i32_w]
                              rfl
                            refine pure_ (i := 8) (N := some 42) (v := ?_) (a' := ?_) #[true, true, true, true, true, true, false, true, true, false, false, false, false, false, false, false, false, false, false] rfl rfl (any_of HT_.out (by kernel_rfl)) (fun _ _ _ h => h) (Or.inl ⟨by rfl, ?_⟩) ?_ ?_
                            rotate_left
                            · intro w'
                              go_simp
                              with_reducible rfl
                            rotate_left
                            · simp only [Act.put, List.setIfInBounds_toArray, List.set_cons_zero, List.set_cons_succ, i64_w, i32_w]
                              rfl
                            refine pure_ (i := 13) (N := some 47) (v := ?_) (a' := ?_) #[true, true, true, true, true, true, false, true, true, false, false, false, false, true, false, false, false, false, false] rfl rfl (any_of HT_.out (by kernel_rfl)) (fun _ _ _ h => h) (Or.inl ⟨by rfl, ?_⟩) ?_ ?_
                            rotate_left
                            · intro w'
                              go_simp
                              with_reducible rfl
                            rotate_left
                            · simp only [Act.put, List.setIfInBounds_toArray, List.set_cons_zero, List.set_cons_succ, i64_w, i32_w]
                              rfl
                            refine pure_ (i := 14) (N := some 48) (v := ?_) (a' := ?_) #[true, true, true, true, true, true, false, true, true, false, false, false, false, true, true, false, false, false, false] rfl rfl (any_of HT_.out (by kernel_rfl)) (fun _ _ _ h => h) (Or.inl ⟨by rfl, ?_⟩) ?_ ?_
                            rotate_left
                            · intro w'
                              go_simp
                              with_reducible rfl
                            rotate_left
                            · simp only [Act.put, List.setIfInBounds_toArray, List.set_cons_zero, List.set_cons_succ, i64_w, i32_w]
                              rfl
                            refine pure_ (i := 15) (N := some 49) (v := ?_) (a' := ?_) #[true, true, true, true, true, true, false, true, true, false, false, false, false, true, true, true, false, false, false] rfl rfl (any_of HT_.out (by kernel_rfl)) (fun _ _ _ h => h) (Or.inl ⟨by rfl, ?_⟩) ?_ ?_
                            rotate_left
                            · intro w'
                              go_simp
                              with_reducible rfl
                            rotate_left
                            · simp only [Act.put, List.setIfInBounds_toArray, List.set_cons_zero, List.set_cons_succ, i64_w, i32_w]
                              rfl
                            refine pure_ (i := 16) (N := some 50) (v := ?_) (a' := ?_) #[true, true, true, true, true, true, false, true, true, false, false, false, false, true, true, true, true, false, false] rfl rfl (any_of HT_.out (by kernel_rfl)) (fun _ _ _ h => h) (Or.inl ⟨by rfl, ?_⟩) ?_ ?_
                            rotate_left
                            · intro w'
                              go_simp
                              with_reducible rfl
                            rotate_left
                            · simp only [Act.put, List.setIfInBounds_toArray, List.set_cons_zero, List.set_cons_succ, i64_w, i32_w]
                              rfl
                            refine take_ (i := 6) (N := some 40) (v := ?_) (a' := ?_) #[true, true, true, true, true, true, true, true, true, false, false, false, false, true, true, true, true, false, false] rfl rfl (take_ofW HT_.out HW_.out (by kernel_rfl)) (fun _ _ _ h => h) (Or.inl ⟨by rfl, ?_⟩) hHeld ?_ ?_
                            rotate_left
                            · intro w' _
                              go_simp
                              with_reducible rfl
                            rotate_left
                            · simp only [Act.put, List.setIfInBounds_toArray, List.set_cons_zero, List.set_cons_succ, i64_w, i32_w]
                              rfl
                            refine take_ (i := 9) (N := some 43) (v := ?_) (a' := ?_) #[true, true, true, true, true, true, true, true, true, true, false, false, false, true, true, true, true, false, false] rfl rfl (take_ofW HT_.out HW_.out (by kernel_rfl)) (fun _ _ _ h => h) (Or.inl ⟨by rfl, ?_⟩) hHeld ?_ ?_
                            rotate_left
                            · intro w' _
                              go_simp
                              with_reducible rfl
                            rotate_left
                            · simp only [Act.put, List.setIfInBounds_toArray, List.set_cons_zero, List.set_cons_succ, i64_w, i32_w]
                              rfl
                            refine one_ (i := 10) (N := some 44) #[true, true, true, true, true, true, true, true, true, true, true, false, false, true, true, true, true, false, false] rfl rfl (one_of HT_.out (by kernel_rfl)) (by decide) (fun K hK => ?_)
                            refine Kd.R_lit_step (Kd.int .u8) _ 5 ?hg (N := 44) ?hd (xs := ([bt t123 (ji16), bt t123 a2] : List Int)) (inner := [.int .u8 (bt t123 (ji16)), .int .u8 (bt t123 a2)]) (ok := fun _ => True) (okp := fun _ => True) ?hr ?hp (fun _ hk => hk) trivial (Below.refl _ _) (Nat.le_refl _) (by simp) ?_; (case hd => rfl); (case hg => rfl); (case hr => first | (go_simp; done) | (go_simp; rfl)); (case hp => exact (Reps.one (show Kd.M (Kd.int .u8) _ _ _ (bt t123 (ji16)) [.int .u8 (bt t123 (ji16))] from rfl) (Reps.one (show Kd.M (Kd.int .u8) _ _ _ (bt t123 a2) [.int .u8 (bt t123 a2)] from rfl) (Reps.none _ _))))
                            intro v126 w31 ho32 hb hg_ hnew_
                            clear hg_ hnew_
                            (first | rw [← Ny125.out] at ho32 | (simp only [Int.reduceToNat] at ho32; rw [← Ny125.out] at ho32))
                            have n0_ := Aside0.mk (Kd.R_lower ho32 (below_size (by repeat (first | (with_reducible first | exact HB.out | apply below_alloc | apply pw_below_drewN | apply below_drew1) | exact HB.out))))
                            have n1_ := Aside0.mk (below_step (by repeat (first | (with_reducible first | exact HB.out | apply below_alloc | apply pw_below_drewN | apply below_drew1) | exact HB.out)) hb)
                            clear HB
                            have HO127 := n0_
                            have HB := n1_
                            clear n0_ n1_
                            clear hb ho32
                            refine hK.out _ _ trivial (fun hHeld => ?_)
                            clear hK K
                            refine norm_ (a' := ?_) ?_ ?_
                            rotate_left
                            · show Act.put _ (some 44) _ = _
                              simp only [Act.put, List.setIfInBounds_toArray, List.set_cons_zero, List.set_cons_succ, i64_w, i32_w]
                              rfl
                            refine one_ (i := 11) (N := some 45) #[true, true, true, true, true, true, true, true, true, true, true, true, false, true, true, true, true, false, false] rfl rfl (one_of HT_.out (by kernel_rfl)) (by decide) (fun K hK => ?_)
                            have hcv33 := own_string (P := Tryd.prog) Tryd.underlying29 Tryd.underlying5 Tryd.underlying9 (Kd.own_of_R HO127.out)
                            refine value_ (w1 := ?_) (v := ?_) (by rfl) rfl ?_ ?_
                            rotate_left 2
                            · go_simp
                              constructor
                              · rfl
                              · rfl
                            clear hcv33
                            refine hK.out _ _ trivial (fun hHeld => ?_)
                            clear hK K
                            refine norm_ (a' := ?_) ?_ ?_
                            rotate_left
                            · show Act.put _ (some 45) _ = _
                              simp only [Act.put, List.setIfInBounds_toArray, List.set_cons_zero, List.set_cons_succ, i64_w, i32_w]
                              rfl
                            refine pure_ (i := 12) (N := some 46) (v := ?_) (a' := ?_) #[true, true, true, true, true, true, true, true, true, true, true, true, true, true, true, true, true, false, false] rfl rfl (any_of HT_.out (by kernel_rfl)) (fun _ _ _ h => h) (Or.inl ⟨by rfl, ?_⟩) ?_ ?_
                            rotate_left
                            · intro w'
                              go_simp
                              with_reducible rfl
                            rotate_left
                            · simp only [Act.put, List.setIfInBounds_toArray, List.set_cons_zero, List.set_cons_succ, i64_w, i32_w]
                              rfl
                            refine pure_ (i := 17) (N := some 51) (v := ?_) (a' := ?_) #[true, true, true, true, true, true, true, true, true, true, true, true, true, true, true, true, true, true, false] rfl rfl (any_of HT_.out (by kernel_rfl)) (fun _ _ _ h => h) (Or.inl ⟨by rfl, ?_⟩) ?_ ?_
                            rotate_left
                            · intro w'
                              go_simp
                              with_reducible rfl
                            rotate_left
                            · simp only [Act.put, List.setIfInBounds_toArray, List.set_cons_zero, List.set_cons_succ, i64_w, i32_w]
                              rfl
                            refine pure_ (i := 18) (N := some 9) (v := ?_) (a' := ?_) #[true, true, true, true, true, true, true, true, true, true, true, true, true, true, true, true, true, true, true] rfl rfl (any_of HT_.out (by kernel_rfl)) (fun _ _ _ h => h) (Or.inl ⟨by rfl, ?_⟩) ?_ ?_
                            rotate_left
                            · intro w'
                              go_simp
                              with_reducible rfl
                            rotate_left
                            · simp only [Act.put, List.setIfInBounds_toArray, List.set_cons_zero, List.set_cons_succ, i64_w, i32_w]
                              rfl
                            refine done_ (done_of HT_.out (by kernel_rfl)) ?_
                            try go_wp2_with (first | ((with_reducible refine gate_callee (f := 15) rfl ?_); refine goesL_ (some 53) rfl rfl Tryd.func15 (by kernel_rfl) rfl #[.string (((t123.extract 0 (a2 : Int).toNat) ++ (strOfNums y125)) ++ (t123.extract ((ji23) : Int).toNat t123.size))] rfl (by (try simp only [List.map_toArray, List.map_cons, List.map_nil]); first | done | (simp only [hji23]; rfl) | rfl | (simp only [List.length_drop, List.length_take]; rfl)) ?_; (with_reducible refine (mark_Right.calls (((t123.extract 0 (a2 : Int).toNat) ++ (strOfNums y125)) ++ (t123.extract ((ji23) : Int).toNat t123.size)) t128 _ A27.out).mono ?_); rintro e w' ⟨rfl, ⟨nd, rfl⟩⟩; refine ⟨_, rfl, ?_⟩))
                            go_ret
                            exact ⟨by first | rfl | (simp [errW_none, errW_some] <;> rfl) | (simp only [← hji16, ← hji23]; first | rfl | (simp [errW_none, errW_some] <;> rfl)) | (simp [*, errW_none, errW_some] <;> rfl), by repeat (first | (with_reducible first | exact HB.out | apply below_alloc | apply pw_below_drewN | apply below_drew1) | exact HB.out)⟩
                          · rw [if_neg c26] at H
                            exact absurd H (by simp)
                        · rw [if_neg c25] at H
                          exact absurd H (by simp)
                      · rw [if_neg c24] at H
                        exact absurd H (by simp)
                    · rw [if_neg c22] at H
                      exact absurd H (by simp)
                  · rw [if_neg c20] at H
                    exact absurd H (by simp)
                · rw [if_neg c18] at H
                  exact absurd H (by simp)
              · rw [if_neg c17] at H
                exact absurd H (by simp)
            · rw [if_neg c15] at H
              exact absurd H (by simp)
          · rw [if_neg c14] at H
            exact absurd H (by simp)
    · rw [if_neg c7] at H
      have c7b0 : (t124 == 0) = false := beq_eq_false_iff_ne.mpr c7
      have c7b1 : (t124 != 0) = true := bne_iff_ne.mpr c7
      obtain rfl := Option.some.inj H
      go_enter Tryd.func4, Tryd.ntmps4
      go_wp2_with (first | ((with_reducible refine gate_callee (f := 11) rfl ?_); refine goesL_ (some 10) rfl rfl Tryd.func11 (by kernel_rfl) rfl #[] rfl (by (try simp only [List.map_toArray, List.map_cons, List.map_nil]); first | done | rfl | (simp only [List.length_drop, List.length_take]; rfl)) ?_; (with_reducible refine (supercargolaw03_awake.calls  true _ A4.out (TB.below HT (by repeat (first | (with_reducible first | exact HB.out | apply below_alloc | apply pw_below_drewN | apply below_drew1) | exact HB.out)))).mono ?_); rintro e w34 ⟨rfl, hb⟩; refine ⟨_, rfl, ?_⟩; have n0_ := Aside0.mk (below_step (by repeat (first | (with_reducible first | exact HB.out | apply below_alloc | apply pw_below_drewN | apply below_drew1) | exact HB.out)) hb); clear HB; have HB := n0_; clear n0_; (try clear hb); (try clear hb2); (try clear hk); (try clear hi)) | ((with_reducible refine gate_callee (f := 12) rfl ?_); refine goesL_ (some 15) rfl rfl Tryd.func12 (by kernel_rfl) rfl #[.string a0, .int .i64 a1] rfl (by (try simp only [List.map_toArray, List.map_cons, List.map_nil]); first | done | rfl | (simp only [List.length_drop, List.length_take]; rfl)) ?_; (with_reducible refine (mark_Make.calls a0 a1 t123 t124 _ A6.out (TB.below HT (by repeat (first | (with_reducible first | exact HB.out | apply below_alloc | apply pw_below_drewN | apply below_drew1) | exact HB.out)))).mono ?_); rintro e w35 ⟨rfl, hb⟩; refine ⟨_, rfl, ?_⟩; have n0_ := Aside0.mk (below_step (by repeat (first | (with_reducible first | exact HB.out | apply below_alloc | apply pw_below_drewN | apply below_drew1) | exact HB.out)) hb); clear HB; have HB := n0_; clear n0_; (try clear hb); (try clear hb2); (try clear hk); (try clear hi)))
      go_ret
      exact ⟨by first | rfl | (simp [errW_none, errW_some] <;> rfl) | (simp [*, errW_none, errW_some] <;> rfl), by repeat (first | (with_reducible first | exact HB.out | apply below_alloc | apply pw_below_drewN | apply below_drew1) | exact HB.out)⟩
  · replace c5 := Bool.eq_false_iff.mpr c5
    subst c5
    have H1 : (some false) = some r := by rw [if_neg (show ¬ (false = true) by decide)] at H; exact H
    clear H
    have H := H1
    clear H1
    obtain rfl := Option.some.inj H
    go_enter Tryd.func4, Tryd.ntmps4
    go_wp2_with (first | ((with_reducible refine gate_callee (f := 11) rfl ?_); refine goesL_ (some 10) rfl rfl Tryd.func11 (by kernel_rfl) rfl #[] rfl (by (try simp only [List.map_toArray, List.map_cons, List.map_nil]); first | done | rfl | (simp only [List.length_drop, List.length_take]; rfl)) ?_; (with_reducible refine (supercargolaw03_awake.calls  false _ A4.out (TB.below HT (by repeat (first | (with_reducible first | exact HB.out | apply below_alloc | apply pw_below_drewN | apply below_drew1) | exact HB.out)))).mono ?_); rintro e w36 ⟨rfl, hb⟩; refine ⟨_, rfl, ?_⟩; have n0_ := Aside0.mk (below_step (by repeat (first | (with_reducible first | exact HB.out | apply below_alloc | apply pw_below_drewN | apply below_drew1) | exact HB.out)) hb); clear HB; have HB := n0_; clear n0_; (try clear hb); (try clear hb2); (try clear hk); (try clear hi)))
    go_ret
    exact ⟨by first | rfl | (simp [errW_none, errW_some] <;> rfl) | (simp [*, errW_none, errW_some] <;> rfl), by repeat (first | (with_reducible first | exact HB.out | apply below_alloc | apply pw_below_drewN | apply below_drew1) | exact HB.out)⟩

end Go.Proofs.YtkfcllapmkeihaaDoor.X
