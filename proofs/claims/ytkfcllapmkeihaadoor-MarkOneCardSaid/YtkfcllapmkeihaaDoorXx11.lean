-- Written by wip/xprint.py (this session) over the kit's print.py
import Derived.Test.YtkfcllapmkeihaaDoorXx0
import Derived.Test.YtkfcllapmkeihaaDoorXx1
import Derived.Test.YtkfcllapmkeihaaDoorXx4
namespace Go.Proofs.YtkfcllapmkeihaaDoor.X
open Go.RowKit Go.Proofs.YtkfcllapmkeihaaDoor.Ext Go.Proofs.YtkfcllapmkeihaaDoorW.PrintWords Go.Proofs.YtkfcllapmkeihaaDoorW.PrintLast Go.Proofs.YtkfcllapmkeihaaDoorW.PrintMore
attribute [local go_sem] max2_int min2_int max_two min_two max_three min_three max_four min_four   -- for this text's walks alone
set_option linter.unusedVariables false
set_option linter.unusedSimpArgs false

/-! ### supercargolaw03_MarkOne: function 10 -/
mutual
def supercargolaw03_MarkOne.j0 : Nat → Int → Int → ByteArray → Int → Bool → Option (Bool)
  | 0, _, _, _, _, _ => none
  | k + 1, x2, x3, x9, x10, x38 => if x38 = true then (if x10 = 0 then (some true) else (some (x9.toList == ([] : List UInt8)))) else (if 0 ≤ x2 then (if x2 ≤ (x9.size : Int) then ((some (([x3] : List Int) : List Int)).bind fun y246 => (if (x2 : Int).toNat + (strOfNums y246).size ≤ 9223372036854775807 then (if 0 ≤ (wrap64 (x2 + 1)) then (if (wrap64 (x2 + 1)) ≤ (x9.size : Int) then (if (x2 : Int).toNat + (strOfNums y246).size + (x9.size - ((wrap64 (x2 + 1)) : Int).toNat) ≤ 9223372036854775807 then ((mark_Right.f (((x9.extract 0 (x2 : Int).toNat) ++ (strOfNums y246)) ++ (x9.extract ((wrap64 (x2 + 1)) : Int).toNat x9.size))).bind fun t249 => (if t249 = true then (supercargolaw03_MarkOne.j1 k x9 (((x9.extract 0 (x2 : Int).toNat) ++ (strOfNums y246)) ++ (x9.extract ((wrap64 (x2 + 1)) : Int).toNat x9.size)) true) else ((mark_Owner.f (((x9.extract 0 (x2 : Int).toNat) ++ (strOfNums y246)) ++ (x9.extract ((wrap64 (x2 + 1)) : Int).toNat x9.size))).bind fun t250 => (if t250.toList = ([] : List UInt8) then ((mark_Number.f k (((x9.extract 0 (x2 : Int).toNat) ++ (strOfNums y246)) ++ (x9.extract ((wrap64 (x2 + 1)) : Int).toNat x9.size))).bind fun t251 => (supercargolaw03_MarkOne.j1 k x9 (((x9.extract 0 (x2 : Int).toNat) ++ (strOfNums y246)) ++ (x9.extract ((wrap64 (x2 + 1)) : Int).toNat x9.size)) (t251 != (-1)))) else (supercargolaw03_MarkOne.j1 k x9 (((x9.extract 0 (x2 : Int).toNat) ++ (strOfNums y246)) ++ (x9.extract ((wrap64 (x2 + 1)) : Int).toNat x9.size)) true))))) else (none)) else (none)) else (none)) else (none))) else (none)) else (none))
def supercargolaw03_MarkOne.j1 : Nat → ByteArray → ByteArray → Bool → Option (Bool)
  | 0, _, _, _ => none
  | k + 1, x9, x11, x68 => if x68 = true then (some false) else ((mark_Mend.f x11).bind fun t252 => (supercargolaw03_MarkOne.l0 k x9 t252 0))
def supercargolaw03_MarkOne.l0 : Nat → ByteArray → List ByteArray → Int → Option (Bool)
  | 0, _, _, _ => none
  | k + 1, x9, x12, x13 => if x13 < (x12.length : Int) then (if 0 ≤ x13 then (if (rdOf ByteArray.empty x12 x13).toList = x9.toList then (some true) else (supercargolaw03_MarkOne.l0 k x9 x12 (wrap64 (x13 + 1)))) else (none)) else (some false)
end
def supercargolaw03_MarkOne.f (k : Nat) (a0 : ByteArray) (a1 : Int) (a2 : Int) (a3 : Int) : Option (Bool) := (supercargolaw03_awake.f).bind fun t243 => (if t243 = true then ((mark_Make.f a0 a1).bind fun bt244 => (if bt244.2 = 0 then (if a2 < 0 then (supercargolaw03_MarkOne.j0 k a2 a3 bt244.1 bt244.2 true) else (if a2 > 11 then (supercargolaw03_MarkOne.j0 k a2 a3 bt244.1 bt244.2 true) else (if 0 ≤ a2 then (if a2 < (bt244.1.size : Int) then (supercargolaw03_MarkOne.j0 k a2 a3 bt244.1 bt244.2 ((bt bt244.1 a2) == a3)) else (none)) else (none)))) else (supercargolaw03_MarkOne.j0 k a2 a3 bt244.1 bt244.2 true))) else (some false))
theorem supercargolaw03_MarkOne.mono_l : ∀ k, (∀ y0 y1 y2 y3 y4, LeO (supercargolaw03_MarkOne.j0 k y0 y1 y2 y3 y4) (supercargolaw03_MarkOne.j0 (k + 1) y0 y1 y2 y3 y4)) ∧ (∀ y0 y1 y2, LeO (supercargolaw03_MarkOne.j1 k y0 y1 y2) (supercargolaw03_MarkOne.j1 (k + 1) y0 y1 y2)) ∧ (∀ y0 y1 y2, LeO (supercargolaw03_MarkOne.l0 k y0 y1 y2) (supercargolaw03_MarkOne.l0 (k + 1) y0 y1 y2))
  | 0 => ⟨fun _ _ _ _ _ r h => by simp [supercargolaw03_MarkOne.j0] at h, fun _ _ _ r h => by simp [supercargolaw03_MarkOne.j1] at h, fun _ _ _ r h => by simp [supercargolaw03_MarkOne.l0] at h⟩
  | k + 1 => by
    obtain ⟨ih0, ih1, ih2⟩ := supercargolaw03_MarkOne.mono_l k
    refine ⟨?_, ?_, ?_⟩
    · intro y0 y1 y2 y3 y4
      unfold supercargolaw03_MarkOne.j0
      repeat' first
      | (with_reducible exact ih0 _ _ _ _ _)
      | (with_reducible exact ih1 _ _ _)
      | (with_reducible exact ih2 _ _ _)
      | (with_reducible exact mark_Number.mono _ _)
      | (with_reducible exact LeO.refl _)
      | (with_reducible exact LeO.none _)
      | (with_reducible refine LeO.ite ?_ ?_)
      | (with_reducible refine LeO.bind ?_ (fun _ => ?_))
      | exact ih0 _ _ _ _ _
      | exact ih1 _ _ _
      | exact ih2 _ _ _
      | exact mark_Number.mono _ _
      | exact LeO.none _
      | refine LeO.ite ?_ ?_
      | refine LeO.bind ?_ (fun _ => ?_)
    · intro y0 y1 y2
      unfold supercargolaw03_MarkOne.j1
      repeat' first
      | (with_reducible exact ih0 _ _ _ _ _)
      | (with_reducible exact ih1 _ _ _)
      | (with_reducible exact ih2 _ _ _)
      | (with_reducible exact mark_Number.mono _ _)
      | (with_reducible exact LeO.refl _)
      | (with_reducible exact LeO.none _)
      | (with_reducible refine LeO.ite ?_ ?_)
      | (with_reducible refine LeO.bind ?_ (fun _ => ?_))
      | exact ih0 _ _ _ _ _
      | exact ih1 _ _ _
      | exact ih2 _ _ _
      | exact mark_Number.mono _ _
      | exact LeO.none _
      | refine LeO.ite ?_ ?_
      | refine LeO.bind ?_ (fun _ => ?_)
    · intro y0 y1 y2
      unfold supercargolaw03_MarkOne.l0
      repeat' first
      | (with_reducible exact ih0 _ _ _ _ _)
      | (with_reducible exact ih1 _ _ _)
      | (with_reducible exact ih2 _ _ _)
      | (with_reducible exact mark_Number.mono _ _)
      | (with_reducible exact LeO.refl _)
      | (with_reducible exact LeO.none _)
      | (with_reducible refine LeO.ite ?_ ?_)
      | (with_reducible refine LeO.bind ?_ (fun _ => ?_))
      | exact ih0 _ _ _ _ _
      | exact ih1 _ _ _
      | exact ih2 _ _ _
      | exact mark_Number.mono _ _
      | exact LeO.none _
      | refine LeO.ite ?_ ?_
      | refine LeO.bind ?_ (fun _ => ?_)
theorem supercargolaw03_MarkOne.mono : ∀ a0 a1 a2 a3 k, LeO (supercargolaw03_MarkOne.f k a0 a1 a2 a3) (supercargolaw03_MarkOne.f (k + 1) a0 a1 a2 a3) := by
  intro a0 a1 a2 a3 k
  obtain ⟨ih0, ih1, ih2⟩ := supercargolaw03_MarkOne.mono_l k
  unfold supercargolaw03_MarkOne.f
  repeat' first
      | (with_reducible exact ih0 _ _ _ _ _)
      | (with_reducible exact ih1 _ _ _)
      | (with_reducible exact ih2 _ _ _)
      | (with_reducible exact mark_Number.mono _ _)
      | (with_reducible exact LeO.refl _)
      | (with_reducible exact LeO.none _)
      | (with_reducible refine LeO.ite ?_ ?_)
      | (with_reducible refine LeO.bind ?_ (fun _ => ?_))
      | exact ih0 _ _ _ _ _
      | exact ih1 _ _ _
      | exact ih2 _ _ _
      | exact mark_Number.mono _ _
      | exact LeO.none _
      | refine LeO.ite ?_ ?_
      | refine LeO.bind ?_ (fun _ => ?_)
def supercargolaw03_MarkOne.T6 : Bool × List (List Nat × List Nat) := (true, [([], []), ([], []), ([0, 1], [0, 1]), ([], []), ([3], [3]), ([4], [4]), ([2, 5], [2, 5]), ([], []), ([], []), ([8], [8]), ([7, 9], [7, 9]), ([6, 10], [6, 10]), ([11, 0, 1, 2, 3, 4, 5, 6, 7, 8, 9, 10, 11], [11])])
def supercargolaw03_MarkOne.B6 : List Nat := [0, 0, 3, 0, 8, 24, 63, 0, 0, 256, 896, 2047, 4095]
theorem supercargolaw03_MarkOne.tab6 : rtab .any (opsOf Tryd.f10 6) = supercargolaw03_MarkOne.T6 := by kernel_rfl
theorem supercargolaw03_MarkOne.bits6 : waitsOk supercargolaw03_MarkOne.T6.2 supercargolaw03_MarkOne.B6 = true := by kernel_rfl
set_option maxHeartbeats 8000000 in
set_option maxRecDepth 100000 in
theorem supercargolaw03_MarkOne.calls (k : Nat) (a0 : ByteArray) (a1 : Int) (a2 : Int) (a3 : Int) (r : Bool) (w : World) (h : supercargolaw03_MarkOne.f k a0 a1 a2 a3 = some r) (HT : TB w) :
    Calls Tryd.prog 10 #[.string a0, .int .i64 a1, .int .i64 a2, .int .u8 a3] w fun e w' => e = .returned (.bool r) ∧ Below w.heap.size w w' := by
  have HB := Aside0.mk (Below.refl w.heap.size w)
  have H : ((supercargolaw03_awake.f).bind fun t243 => (if t243 = true then ((mark_Make.f a0 a1).bind fun bt244 => (if bt244.2 = 0 then (if a2 < 0 then (supercargolaw03_MarkOne.j0 k a2 a3 bt244.1 bt244.2 true) else (if a2 > 11 then (supercargolaw03_MarkOne.j0 k a2 a3 bt244.1 bt244.2 true) else (if 0 ≤ a2 then (if a2 < (bt244.1.size : Int) then (supercargolaw03_MarkOne.j0 k a2 a3 bt244.1 bt244.2 ((bt bt244.1 a2) == a3)) else (none)) else (none)))) else (supercargolaw03_MarkOne.j0 k a2 a3 bt244.1 bt244.2 true))) else (some false))) = some r := h
  clear h
  replace H := Option.bind_eq_some_iff.mp H
  obtain ⟨t243, A50, H⟩ := H
  replace H : (if t243 = true then ((mark_Make.f a0 a1).bind fun bt244 => (if bt244.2 = 0 then (if a2 < 0 then (supercargolaw03_MarkOne.j0 k a2 a3 bt244.1 bt244.2 true) else (if a2 > 11 then (supercargolaw03_MarkOne.j0 k a2 a3 bt244.1 bt244.2 true) else (if 0 ≤ a2 then (if a2 < (bt244.1.size : Int) then (supercargolaw03_MarkOne.j0 k a2 a3 bt244.1 bt244.2 ((bt bt244.1 a2) == a3)) else (none)) else (none)))) else (supercargolaw03_MarkOne.j0 k a2 a3 bt244.1 bt244.2 true))) else (some false)) = some r := H
  have A5 := Aside0.mk A50
  clear A50
  by_cases c6 : t243 = true
  · subst c6
    have H1 : ((mark_Make.f a0 a1).bind fun bt244 => (if bt244.2 = 0 then (if a2 < 0 then (supercargolaw03_MarkOne.j0 k a2 a3 bt244.1 bt244.2 true) else (if a2 > 11 then (supercargolaw03_MarkOne.j0 k a2 a3 bt244.1 bt244.2 true) else (if 0 ≤ a2 then (if a2 < (bt244.1.size : Int) then (supercargolaw03_MarkOne.j0 k a2 a3 bt244.1 bt244.2 ((bt bt244.1 a2) == a3)) else (none)) else (none)))) else (supercargolaw03_MarkOne.j0 k a2 a3 bt244.1 bt244.2 true))) = some r := by rw [if_pos rfl] at H; exact H
    clear H
    have H := H1
    clear H1
    replace H := Option.bind_eq_some_iff.mp H
    obtain ⟨⟨t244, t245⟩, A70, H⟩ := H
    replace H : (if t245 = 0 then (if a2 < 0 then (supercargolaw03_MarkOne.j0 k a2 a3 t244 t245 true) else (if a2 > 11 then (supercargolaw03_MarkOne.j0 k a2 a3 t244 t245 true) else (if 0 ≤ a2 then (if a2 < (t244.size : Int) then (supercargolaw03_MarkOne.j0 k a2 a3 t244 t245 ((bt t244 a2) == a3)) else (none)) else (none)))) else (supercargolaw03_MarkOne.j0 k a2 a3 t244 t245 true)) = some r := H
    have A7 := Aside0.mk A70
    clear A70
    have HC8 := Aside0.mk H
    clear H
    go_enter Tryd.func10, Tryd.ntmps10
    go_upto_region 4 with (first | ((with_reducible refine gate_callee (f := 11) rfl ?_); refine goesL_ (some 14) rfl rfl Tryd.func11 (by kernel_rfl) rfl #[] rfl (by (try simp only [List.map_toArray, List.map_cons, List.map_nil]); first | done | rfl | (simp only [List.length_drop, List.length_take]; rfl)) ?_; (with_reducible refine (supercargolaw03_awake.calls  true _ A5.out (TB.below HT (by repeat (first | (with_reducible first | exact HB.out | apply below_alloc | apply pw_below_drewN | apply below_drew1) | exact HB.out)))).mono ?_); rintro e w9 ⟨rfl, hb⟩; refine ⟨_, rfl, ?_⟩; have n0_ := Aside0.mk (below_step (by repeat (first | (with_reducible first | exact HB.out | apply below_alloc | apply pw_below_drewN | apply below_drew1) | exact HB.out)) hb); clear HB; have HB := n0_; clear n0_; (try clear hb); (try clear hb2); (try clear hk); (try clear hi)) | ((with_reducible refine gate_callee (f := 12) rfl ?_); refine goesL_ (some 19) rfl rfl Tryd.func12 (by kernel_rfl) rfl #[.string a0, .int .i64 a1] rfl (by (try simp only [List.map_toArray, List.map_cons, List.map_nil]); first | done | rfl | (simp only [List.length_drop, List.length_take]; rfl)) ?_; (with_reducible refine (mark_Make.calls a0 a1 t244 t245 _ A7.out (TB.below HT (by repeat (first | (with_reducible first | exact HB.out | apply below_alloc | apply pw_below_drewN | apply below_drew1) | exact HB.out)))).mono ?_); rintro e w10 ⟨rfl, hb⟩; refine ⟨_, rfl, ?_⟩; have n0_ := Aside0.mk (below_step (by repeat (first | (with_reducible first | exact HB.out | apply below_alloc | apply pw_below_drewN | apply below_drew1) | exact HB.out)) hb); clear HB; have HB := n0_; clear n0_; (try clear hb); (try clear hb2); (try clear hk); (try clear hi)))
    (try simp only [Act.put, List.setIfInBounds_toArray, List.set_cons_zero, List.set_cons_succ])
    go_cut [38] (fun v38 wc => ∃ (kq : Nat) (x38_7 : Bool), v38 = .bool x38_7 ∧ Aside0 (supercargolaw03_MarkOne.j0 kq a2 a3 t244 t245 x38_7 = some r) ∧ Aside0 (kq ≤ k) ∧ Aside0 (Below w.heap.size w wc))
    case first =>
      have H := HC8.out
      clear HC8
      by_cases c11 : t245 = 0
      · rw [if_pos c11] at H
        have c11b0 : (t245 == 0) = true := beq_iff_eq.mpr c11
        have c11b1 : (t245 != 0) = false := bne_eq_false_iff_eq.mpr c11
        clear c11
        (first | rw [c11b0] | (simp only [i64_w, i32_w]; rw [c11b0]) | skip)
        by_cases c12 : a2 < 0
        · rw [if_pos c12] at H
          have c12b0 : decide (a2 < 0) = true := decide_eq_true c12
          clear c12
          have H' := Aside0.mk H
          clear H
          go_wp2
          go_meet
          case rel => exact ⟨_, (true), (by first | rfl | (simp; done) | (simp [*]; done)), H', ⟨by first | omega | exact Nat.le_refl _⟩, ⟨by repeat (first | (with_reducible first | exact HB.out | apply below_alloc | apply pw_below_drewN | apply below_drew1) | exact HB.out)⟩⟩
        · rw [if_neg c12] at H
          have c12b0 : decide (a2 < 0) = false := decide_eq_false c12
          clear c12
          by_cases c13 : a2 > 11
          · rw [if_pos c13] at H
            have c13b0 : decide (11 < a2) = true := decide_eq_true c13
            clear c13
            have H' := Aside0.mk H
            clear H
            go_wp2
            go_meet
            case rel => exact ⟨_, (true), (by first | rfl | (simp; done) | (simp [*]; done)), H', ⟨by first | omega | exact Nat.le_refl _⟩, ⟨by repeat (first | (with_reducible first | exact HB.out | apply below_alloc | apply pw_below_drewN | apply below_drew1) | exact HB.out)⟩⟩
          · rw [if_neg c13] at H
            have c13b0 : decide (11 < a2) = false := decide_eq_false c13
            clear c13
            by_cases c14 : 0 ≤ a2
            · rw [if_pos c14] at H
              have c14b0 : decide (0 ≤ a2) = true := decide_eq_true c14
              clear c14
              by_cases c15 : a2 < (t244.size : Int)
              · rw [if_pos c15] at H
                have c15b0 : decide (a2 < (t244.size : Int)) = true := decide_eq_true c15
                clear c15
                have H' := Aside0.mk H
                clear H
                have p16 : 0 ≤ (a2 : Int) := of_decide_eq_true (by first | (with_reducible assumption) | assumption)
                have q16 : a2 < (t244.size : Int) := of_decide_eq_true (by first | (with_reducible assumption) | assumption)
                have hx16 := bt_at t244 a2
                replace p16 := eq_true p16
                replace q16 := eq_true q16
                go_wp2
                go_meet
                case rel => exact ⟨_, (((bt t244 a2) == a3)), (by first | rfl | (simp; done) | (simp [*]; done)), H', ⟨by first | omega | exact Nat.le_refl _⟩, ⟨by repeat (first | (with_reducible first | exact HB.out | apply below_alloc | apply pw_below_drewN | apply below_drew1) | exact HB.out)⟩⟩
              · rw [if_neg c15] at H
                exact absurd H (by simp)
            · rw [if_neg c14] at H
              exact absurd H (by simp)
      · rw [if_neg c11] at H
        have c11b0 : (t245 == 0) = false := beq_eq_false_iff_ne.mpr c11
        have c11b1 : (t245 != 0) = true := bne_iff_ne.mpr c11
        (first | rw [c11b0] | (simp only [i64_w, i32_w]; rw [c11b0]) | skip)
        have H' := Aside0.mk H
        clear H
        go_wp2
        go_meet
        case rel => exact ⟨_, (true), (by first | rfl | (simp; done) | (simp [*]; done)), H', ⟨by first | omega | exact Nat.le_refl _⟩, ⟨by repeat (first | (with_reducible first | exact HB.out | apply below_alloc | apply pw_below_drewN | apply below_drew1) | exact HB.out)⟩⟩
    case rest =>
      clear HC8
      try clear c1
      try clear p1
      try clear q1
      try clear hx1
      try clear p2
      try clear c6
      try clear c10
      try clear c11
      try clear c11b0
      try clear c11b1
      try clear c12
      try clear c12b0
      try clear c13
      try clear c13b0
      try clear c14
      try clear c14b0
      try clear c15
      try clear c15b0
      try clear p16
      try clear q16
      try clear hx16
      try clear p16
      try clear q16
      obtain ⟨kq, x38_7, rfl, HA, HJ7, HB⟩ := hcut
      cases kq with
      | zero => exact absurd HA.out (by simp [supercargolaw03_MarkOne.j0])
      | succ kj7 =>
        have H := HA.out
        clear HA
        simp only [supercargolaw03_MarkOne.j0] at H
        by_cases c17 : x38_7 = true
        · subst c17
          have H1 : (if t245 = 0 then (some true) else (some (t244.toList == ([] : List UInt8)))) = some r := by rw [if_pos rfl] at H; exact H
          clear H
          have H := H1
          clear H1
          by_cases c18 : t245 = 0
          · rw [if_pos c18] at H
            have c18b0 : (t245 == 0) = true := beq_iff_eq.mpr c18
            have c18b1 : (t245 != 0) = false := bne_eq_false_iff_eq.mpr c18
            clear c18
            obtain rfl := Option.some.inj H
            go_wp2
            go_ret
            exact ⟨by first | rfl | (simp [errW_none, errW_some] <;> rfl) | (simp [*, errW_none, errW_some] <;> rfl), by repeat (first | (with_reducible first | exact HB.out | apply below_alloc | apply pw_below_drewN | apply below_drew1) | exact HB.out)⟩
          · rw [if_neg c18] at H
            have c18b0 : (t245 == 0) = false := beq_eq_false_iff_ne.mpr c18
            have c18b1 : (t245 != 0) = true := bne_iff_ne.mpr c18
            obtain rfl := Option.some.inj H
            go_wp2
            go_ret
            exact ⟨by first | rfl | (simp [errW_none, errW_some] <;> rfl) | (simp [*, errW_none, errW_some] <;> rfl), by repeat (first | (with_reducible first | exact HB.out | apply below_alloc | apply pw_below_drewN | apply below_drew1) | exact HB.out)⟩
        · replace c17 := Bool.eq_false_iff.mpr c17
          subst c17
          have H1 : (if 0 ≤ a2 then (if a2 ≤ (t244.size : Int) then ((some (([a3] : List Int) : List Int)).bind fun y246 => (if (a2 : Int).toNat + (strOfNums y246).size ≤ 9223372036854775807 then (if 0 ≤ (wrap64 (a2 + 1)) then (if (wrap64 (a2 + 1)) ≤ (t244.size : Int) then (if (a2 : Int).toNat + (strOfNums y246).size + (t244.size - ((wrap64 (a2 + 1)) : Int).toNat) ≤ 9223372036854775807 then ((mark_Right.f (((t244.extract 0 (a2 : Int).toNat) ++ (strOfNums y246)) ++ (t244.extract ((wrap64 (a2 + 1)) : Int).toNat t244.size))).bind fun t249 => (if t249 = true then (supercargolaw03_MarkOne.j1 kj7 t244 (((t244.extract 0 (a2 : Int).toNat) ++ (strOfNums y246)) ++ (t244.extract ((wrap64 (a2 + 1)) : Int).toNat t244.size)) true) else ((mark_Owner.f (((t244.extract 0 (a2 : Int).toNat) ++ (strOfNums y246)) ++ (t244.extract ((wrap64 (a2 + 1)) : Int).toNat t244.size))).bind fun t250 => (if t250.toList = ([] : List UInt8) then ((mark_Number.f kj7 (((t244.extract 0 (a2 : Int).toNat) ++ (strOfNums y246)) ++ (t244.extract ((wrap64 (a2 + 1)) : Int).toNat t244.size))).bind fun t251 => (supercargolaw03_MarkOne.j1 kj7 t244 (((t244.extract 0 (a2 : Int).toNat) ++ (strOfNums y246)) ++ (t244.extract ((wrap64 (a2 + 1)) : Int).toNat t244.size)) (t251 != (-1)))) else (supercargolaw03_MarkOne.j1 kj7 t244 (((t244.extract 0 (a2 : Int).toNat) ++ (strOfNums y246)) ++ (t244.extract ((wrap64 (a2 + 1)) : Int).toNat t244.size)) true))))) else (none)) else (none)) else (none)) else (none))) else (none)) else (none)) = some r := by rw [if_neg (show ¬ (false = true) by decide)] at H; exact H
          clear H
          have H := H1
          clear H1
          by_cases c19 : 0 ≤ a2
          · rw [if_pos c19] at H
            have c19b0 := eq_true c19
            have c19b1 : decide (0 ≤ a2) = true := decide_eq_true c19
            clear c19
            by_cases c20 : a2 ≤ (t244.size : Int)
            · rw [if_pos c20] at H
              have c20b0 := eq_true c20
              have c20b1 : decide (a2 ≤ (t244.size : Int)) = true := decide_eq_true c20
              clear c20
              obtain ⟨y246, hy246⟩ : ∃ y_ : List Int, y_ = (([a3] : List Int)) := ⟨_, rfl⟩
              replace H : (if (a2 : Int).toNat + (strOfNums y246).size ≤ 9223372036854775807 then (if 0 ≤ (wrap64 (a2 + 1)) then (if (wrap64 (a2 + 1)) ≤ (t244.size : Int) then (if (a2 : Int).toNat + (strOfNums y246).size + (t244.size - ((wrap64 (a2 + 1)) : Int).toNat) ≤ 9223372036854775807 then ((mark_Right.f (((t244.extract 0 (a2 : Int).toNat) ++ (strOfNums y246)) ++ (t244.extract ((wrap64 (a2 + 1)) : Int).toNat t244.size))).bind fun t249 => (if t249 = true then (supercargolaw03_MarkOne.j1 kj7 t244 (((t244.extract 0 (a2 : Int).toNat) ++ (strOfNums y246)) ++ (t244.extract ((wrap64 (a2 + 1)) : Int).toNat t244.size)) true) else ((mark_Owner.f (((t244.extract 0 (a2 : Int).toNat) ++ (strOfNums y246)) ++ (t244.extract ((wrap64 (a2 + 1)) : Int).toNat t244.size))).bind fun t250 => (if t250.toList = ([] : List UInt8) then ((mark_Number.f kj7 (((t244.extract 0 (a2 : Int).toNat) ++ (strOfNums y246)) ++ (t244.extract ((wrap64 (a2 + 1)) : Int).toNat t244.size))).bind fun t251 => (supercargolaw03_MarkOne.j1 kj7 t244 (((t244.extract 0 (a2 : Int).toNat) ++ (strOfNums y246)) ++ (t244.extract ((wrap64 (a2 + 1)) : Int).toNat t244.size)) (t251 != (-1)))) else (supercargolaw03_MarkOne.j1 kj7 t244 (((t244.extract 0 (a2 : Int).toNat) ++ (strOfNums y246)) ++ (t244.extract ((wrap64 (a2 + 1)) : Int).toNat t244.size)) true))))) else (none)) else (none)) else (none)) else (none)) = some r := by first | (rw [hy246]; with_reducible exact H) | (have H2_ := (Option.bind_some _ _).symm.trans H; rw [hy246]; with_reducible exact H2_) | (have H2_ := (Option.bind_some _ _).symm.trans H; with_reducible exact H2_) | with_reducible exact H | (rw [hy246]; exact H) | exact H
              have Ny246 := Aside0.mk hy246
              clear hy246
              by_cases c21 : (a2 : Int).toNat + (strOfNums y246).size ≤ 9223372036854775807
              · rw [if_pos c21] at H
                have c21b0 := eq_true c21
                have c21b1 : decide ((a2 : Int).toNat + (strOfNums y246).size ≤ 9223372036854775807) = true := decide_eq_true c21
                try have c21b2 : (9223372036854775807 < (a2 : Int).toNat + (strOfNums y246).size) = False := eq_false (Nat.not_lt.2 c21)
                obtain ⟨ji22, hji22⟩ : ∃ j_ : Int, (wrap64 (a2 + 1)) = j_ := ⟨_, rfl⟩
                replace H : (if 0 ≤ (ji22) then (if (ji22) ≤ (t244.size : Int) then (if (a2 : Int).toNat + (strOfNums y246).size + (t244.size - ((ji22) : Int).toNat) ≤ 9223372036854775807 then ((mark_Right.f (((t244.extract 0 (a2 : Int).toNat) ++ (strOfNums y246)) ++ (t244.extract ((ji22) : Int).toNat t244.size))).bind fun t249 => (if t249 = true then (supercargolaw03_MarkOne.j1 kj7 t244 (((t244.extract 0 (a2 : Int).toNat) ++ (strOfNums y246)) ++ (t244.extract ((ji22) : Int).toNat t244.size)) true) else ((mark_Owner.f (((t244.extract 0 (a2 : Int).toNat) ++ (strOfNums y246)) ++ (t244.extract ((ji22) : Int).toNat t244.size))).bind fun t250 => (if t250.toList = ([] : List UInt8) then ((mark_Number.f kj7 (((t244.extract 0 (a2 : Int).toNat) ++ (strOfNums y246)) ++ (t244.extract ((ji22) : Int).toNat t244.size))).bind fun t251 => (supercargolaw03_MarkOne.j1 kj7 t244 (((t244.extract 0 (a2 : Int).toNat) ++ (strOfNums y246)) ++ (t244.extract ((ji22) : Int).toNat t244.size)) (t251 != (-1)))) else (supercargolaw03_MarkOne.j1 kj7 t244 (((t244.extract 0 (a2 : Int).toNat) ++ (strOfNums y246)) ++ (t244.extract ((ji22) : Int).toNat t244.size)) true))))) else (none)) else (none)) else (none)) = some r := by first | (rw [hji22] at H; exact H) | (simp only [hji22] at H ⊢; exact H)
                have hji22w : (IntKind.i64.wrap (a2 + 1)) = ji22 := (i64_w _).trans hji22
                by_cases c23 : 0 ≤ (ji22)
                · rw [if_pos c23] at H
                  have c23b0 := eq_true c23
                  have c23b1 : decide (0 ≤ (ji22)) = true := decide_eq_true c23
                  clear c23
                  by_cases c24 : (ji22) ≤ (t244.size : Int)
                  · rw [if_pos c24] at H
                    have c24b0 := eq_true c24
                    have c24b1 : decide ((ji22) ≤ (t244.size : Int)) = true := decide_eq_true c24
                    clear c24
                    by_cases c25 : (a2 : Int).toNat + (strOfNums y246).size + (t244.size - ((ji22) : Int).toNat) ≤ 9223372036854775807
                    · rw [if_pos c25] at H
                      have c25b0 := eq_true c25
                      have c25b1 : decide ((a2 : Int).toNat + (strOfNums y246).size + (t244.size - ((ji22) : Int).toNat) ≤ 9223372036854775807) = true := decide_eq_true c25
                      try have c25b2 : (9223372036854775807 < (a2 : Int).toNat + (strOfNums y246).size + (t244.size - ((ji22) : Int).toNat)) = False := eq_false (Nat.not_lt.2 c25)
                      have HC26 := Aside0.mk H
                      clear H
                      try go_wp2
                      have n0_ := Aside0.mk (below_drew1 HB.out)
                      clear HB
                      have HB := n0_
                      clear n0_
                      refine start_ (n := 13) (S := fun w' => True) (ds := []) #[false, false, false, false, false, false, false, false, false, false, false, false, false] (by kernel_rfl) rfl rfl trivial (fun hHeld => ?_); refine with_tabW supercargolaw03_MarkOne.tab6 supercargolaw03_MarkOne.bits6 (fun HT_ HW_ => ?_)
                      generalize wc.drew = w27 at HB hHeld ⊢
                      refine pure_ (i := 0) (N := some 45) (v := ?_) (a' := ?_) #[true, false, false, false, false, false, false, false, false, false, false, false, false] rfl rfl (any_of HT_.out (by kernel_rfl)) (fun _ _ _ h => h) (Or.inl ⟨by rfl, ?_⟩) ?_ ?_
                      rotate_left
                      · intro w'
                        go_simp
                        with_reducible rfl
                      rotate_left
                      · simp only [Act.put, List.setIfInBounds_toArray, List.set_cons_zero, List.set_cons_succ, i64_w, i32_w]
                        rfl
                      refine pure_ (i := 1) (N := some 46) (v := ?_) (a' := ?_) #[true, true, false, false, false, false, false, false, false, false, false, false, false] rfl rfl (any_of HT_.out (by kernel_rfl)) (fun _ _ _ h => h) (Or.inl ⟨by rfl, ?_⟩) ?_ ?_
                      rotate_left
                      · intro w'
                        go_simp
                        with_reducible rfl
                      rotate_left
                      · simp only [Act.put, List.setIfInBounds_toArray, List.set_cons_zero, List.set_cons_succ, i64_w, i32_w]
                        rfl
                      refine pure_ (i := 2) (N := some 47) (v := ?_) (a' := ?_) #[true, true, true, false, false, false, false, false, false, false, false, false, false] rfl rfl (any_of HT_.out (by kernel_rfl)) (fun _ _ _ h => h) (Or.inl ⟨by rfl, ?_⟩) ?_ ?_
                      rotate_left
                      · intro w'
                        go_simp
                        with_reducible rfl
                      rotate_left
                      · simp only [Act.put, List.setIfInBounds_toArray, List.set_cons_zero, List.set_cons_succ, i64_w, i32_w]
                        rfl
                      refine pure_ (i := 3) (N := some 48) (v := ?_) (a' := ?_) #[true, true, true, true, false, false, false, false, false, false, false, false, false] rfl rfl (any_of HT_.out (by kernel_rfl)) (fun _ _ _ h => h) (Or.inl ⟨by rfl, ?_⟩) ?_ ?_
                      rotate_left
                      · intro w'
                        go_simp
                        with_reducible rfl
                      rotate_left
                      · simp only [Act.put, List.setIfInBounds_toArray, List.set_cons_zero, List.set_cons_succ, i64_w, i32_w]
                        rfl
                      refine pure_ (i := 7) (N := some 52) (v := ?_) (a' := ?_) #[true, true, true, true, false, false, false, true, false, false, false, false, false] rfl rfl (any_of HT_.out (by kernel_rfl)) (fun _ _ _ h => h) (Or.inl ⟨by rfl, ?_⟩) ?_ ?_
                      rotate_left
                      · intro w'
                        go_simp
                        with_reducible rfl
                      rotate_left
                      · simp only [Act.put, List.setIfInBounds_toArray, List.set_cons_zero, List.set_cons_succ, i64_w, i32_w]
                        rfl
                      refine pure_ (i := 8) (N := some 53) (v := ?_) (a' := ?_) #[true, true, true, true, false, false, false, true, true, false, false, false, false] rfl rfl (any_of HT_.out (by kernel_rfl)) (fun _ _ _ h => h) (Or.inl ⟨by rfl, ?_⟩) ?_ ?_
                      rotate_left
                      · intro w'
                        go_simp
                        with_reducible rfl
                      rotate_left
                      · simp only [Act.put, List.setIfInBounds_toArray, List.set_cons_zero, List.set_cons_succ, i64_w, i32_w]
                        rfl
                      refine pure_ (i := 9) (N := some 54) (v := ?_) (a' := ?_) #[true, true, true, true, false, false, false, true, true, true, false, false, false] rfl rfl (any_of HT_.out (by kernel_rfl)) (fun _ _ _ h => h) (Or.inl ⟨by rfl, ?_⟩) ?_ ?_
                      rotate_left
                      · intro w'
                        go_simp
                        with_reducible rfl
                      rotate_left
                      · simp only [Act.put, List.setIfInBounds_toArray, List.set_cons_zero, List.set_cons_succ, i64_w, i32_w]
                        rfl
                      refine pure_ (i := 10) (N := some 55) (v := ?_) (a' := ?_) #[true, true, true, true, false, false, false, true, true, true, true, false, false] rfl rfl (any_of HT_.out (by kernel_rfl)) (fun _ _ _ h => h) (Or.inl ⟨by rfl, ?_⟩) ?_ ?_
                      rotate_left
                      · intro w'
                        go_simp
                        with_reducible rfl
                      rotate_left
                      · simp only [Act.put, List.setIfInBounds_toArray, List.set_cons_zero, List.set_cons_succ, i64_w, i32_w]
                        rfl
                      refine one_ (i := 4) (N := some 49) #[true, true, true, true, true, false, false, true, true, true, true, false, false] rfl rfl (one_of HT_.out (by kernel_rfl)) (by decide) (fun K hK => ?_)
                      refine Kd.R_lit_step (Kd.int .u8) _ 5 ?hg (N := 49) ?hd (xs := ([a3] : List Int)) (inner := [.int .u8 a3]) (ok := fun _ => True) (okp := fun _ => True) ?hr ?hp (fun _ hk => hk) trivial (Below.refl _ _) (Nat.le_refl _) (by simp) ?_; (case hd => rfl); (case hg => rfl); (case hr => first | (go_simp; done) | (go_simp; rfl)); (case hp => exact (Reps.one (show Kd.M (Kd.int .u8) _ _ _ a3 [.int .u8 a3] from rfl) (Reps.none _ _)))
                      intro v247 w28 ho29 hb hg_ hnew_
                      clear hg_ hnew_
                      (first | rw [← Ny246.out] at ho29 | (simp only [Int.reduceToNat] at ho29; rw [← Ny246.out] at ho29))
                      have n0_ := Aside0.mk (Kd.R_lower ho29 (below_size (by repeat (first | (with_reducible first | exact HB.out | apply below_alloc | apply pw_below_drewN | apply below_drew1) | exact HB.out))))
                      have n1_ := Aside0.mk (below_step (by repeat (first | (with_reducible first | exact HB.out | apply below_alloc | apply pw_below_drewN | apply below_drew1) | exact HB.out)) hb)
                      clear HB
                      have HO248 := n0_
                      have HB := n1_
                      clear n0_ n1_
                      clear hb ho29
                      refine hK.out _ _ trivial (fun hHeld => ?_)
                      clear hK K
                      refine norm_ (a' := ?_) ?_ ?_
                      rotate_left
                      · show Act.put _ (some 49) _ = _
                        simp only [Act.put, List.setIfInBounds_toArray, List.set_cons_zero, List.set_cons_succ, i64_w, i32_w]
                        rfl
                      refine one_ (i := 5) (N := some 50) #[true, true, true, true, true, true, false, true, true, true, true, false, false] rfl rfl (one_of HT_.out (by kernel_rfl)) (by decide) (fun K hK => ?_)
                      have hcv30 := own_string (P := Tryd.prog) Tryd.underlying29 Tryd.underlying5 Tryd.underlying9 (Kd.own_of_R HO248.out)
                      refine value_ (w1 := ?_) (v := ?_) (by rfl) rfl ?_ ?_
                      rotate_left 2
                      · go_simp
                        constructor
                        · rfl
                        · rfl
                      clear hcv30
                      refine hK.out _ _ trivial (fun hHeld => ?_)
                      clear hK K
                      refine norm_ (a' := ?_) ?_ ?_
                      rotate_left
                      · show Act.put _ (some 50) _ = _
                        simp only [Act.put, List.setIfInBounds_toArray, List.set_cons_zero, List.set_cons_succ, i64_w, i32_w]
                        rfl
                      refine pure_ (i := 6) (N := some 51) (v := ?_) (a' := ?_) #[true, true, true, true, true, true, true, true, true, true, true, false, false] rfl rfl (any_of HT_.out (by kernel_rfl)) (fun _ _ _ h => h) (Or.inl ⟨by rfl, ?_⟩) ?_ ?_
                      rotate_left
                      · intro w'
                        go_simp
                        with_reducible rfl
                      rotate_left
                      · simp only [Act.put, List.setIfInBounds_toArray, List.set_cons_zero, List.set_cons_succ, i64_w, i32_w]
                        rfl
                      refine pure_ (i := 11) (N := some 56) (v := ?_) (a' := ?_) #[true, true, true, true, true, true, true, true, true, true, true, true, false] rfl rfl (any_of HT_.out (by kernel_rfl)) (fun _ _ _ h => h) (Or.inl ⟨by rfl, ?_⟩) ?_ ?_
                      rotate_left
                      · intro w'
                        go_simp
                        with_reducible rfl
                      rotate_left
                      · simp only [Act.put, List.setIfInBounds_toArray, List.set_cons_zero, List.set_cons_succ, i64_w, i32_w]
                        rfl
                      refine pure_ (i := 12) (N := some 11) (v := ?_) (a' := ?_) #[true, true, true, true, true, true, true, true, true, true, true, true, true] rfl rfl (any_of HT_.out (by kernel_rfl)) (fun _ _ _ h => h) (Or.inl ⟨by rfl, ?_⟩) ?_ ?_
                      rotate_left
                      · intro w'
                        go_simp
                        with_reducible rfl
                      rotate_left
                      · simp only [Act.put, List.setIfInBounds_toArray, List.set_cons_zero, List.set_cons_succ, i64_w, i32_w]
                        rfl
                      refine done_ (done_of HT_.out (by kernel_rfl)) ?_
                      go_upto_region 7 with (fail)
                      go_cut [68] (fun v68 wc => ∃ (kq : Nat) (x68_25 : Bool), v68 = .bool x68_25 ∧ Aside0 (supercargolaw03_MarkOne.j1 kq t244 (((t244.extract 0 (a2 : Int).toNat) ++ (strOfNums y246)) ++ (t244.extract ((ji22) : Int).toNat t244.size)) x68_25 = some r) ∧ Aside0 (kq ≤ kj7) ∧ Aside0 (Below w.heap.size w wc))
                      case first =>
                        have H := HC26.out
                        clear HC26
                        replace H := Option.bind_eq_some_iff.mp H
                        obtain ⟨t249, A310, H⟩ := H
                        replace H : (if t249 = true then (supercargolaw03_MarkOne.j1 kj7 t244 (((t244.extract 0 (a2 : Int).toNat) ++ (strOfNums y246)) ++ (t244.extract ((ji22) : Int).toNat t244.size)) true) else ((mark_Owner.f (((t244.extract 0 (a2 : Int).toNat) ++ (strOfNums y246)) ++ (t244.extract ((ji22) : Int).toNat t244.size))).bind fun t250 => (if t250.toList = ([] : List UInt8) then ((mark_Number.f kj7 (((t244.extract 0 (a2 : Int).toNat) ++ (strOfNums y246)) ++ (t244.extract ((ji22) : Int).toNat t244.size))).bind fun t251 => (supercargolaw03_MarkOne.j1 kj7 t244 (((t244.extract 0 (a2 : Int).toNat) ++ (strOfNums y246)) ++ (t244.extract ((ji22) : Int).toNat t244.size)) (t251 != (-1)))) else (supercargolaw03_MarkOne.j1 kj7 t244 (((t244.extract 0 (a2 : Int).toNat) ++ (strOfNums y246)) ++ (t244.extract ((ji22) : Int).toNat t244.size)) true)))) = some r := H
                        have A31 := Aside0.mk A310
                        clear A310
                        by_cases c32 : t249 = true
                        · subst c32
                          have H1 : (supercargolaw03_MarkOne.j1 kj7 t244 (((t244.extract 0 (a2 : Int).toNat) ++ (strOfNums y246)) ++ (t244.extract ((ji22) : Int).toNat t244.size)) true) = some r := by rw [if_pos rfl] at H; exact H
                          clear H
                          have H := H1
                          clear H1
                          have H' := Aside0.mk H
                          clear H
                          go_wp2_with (first | ((with_reducible refine gate_callee (f := 15) rfl ?_); refine goesL_ (some 58) rfl rfl Tryd.func15 (by kernel_rfl) rfl #[.string (((t244.extract 0 (a2 : Int).toNat) ++ (strOfNums y246)) ++ (t244.extract ((ji22) : Int).toNat t244.size))] rfl (by (try simp only [List.map_toArray, List.map_cons, List.map_nil]); first | done | (simp only [hji22]; rfl) | rfl | (simp only [List.length_drop, List.length_take]; rfl)) ?_; (with_reducible refine (mark_Right.calls (((t244.extract 0 (a2 : Int).toNat) ++ (strOfNums y246)) ++ (t244.extract ((ji22) : Int).toNat t244.size)) true _ A31.out).mono ?_); rintro e w' ⟨rfl, ⟨nd, rfl⟩⟩; refine ⟨_, rfl, ?_⟩))
                          go_meet
                          case rel => exact ⟨_, (true), (by first | rfl | (simp; done) | (simp [*]; done)), H', ⟨by have := HJ7.out; first | omega | exact Nat.le_refl _⟩, ⟨by repeat (first | (with_reducible first | exact HB.out | apply below_alloc | apply pw_below_drewN | apply below_drew1) | exact HB.out)⟩⟩
                        · replace c32 := Bool.eq_false_iff.mpr c32
                          subst c32
                          have H1 : ((mark_Owner.f (((t244.extract 0 (a2 : Int).toNat) ++ (strOfNums y246)) ++ (t244.extract ((ji22) : Int).toNat t244.size))).bind fun t250 => (if t250.toList = ([] : List UInt8) then ((mark_Number.f kj7 (((t244.extract 0 (a2 : Int).toNat) ++ (strOfNums y246)) ++ (t244.extract ((ji22) : Int).toNat t244.size))).bind fun t251 => (supercargolaw03_MarkOne.j1 kj7 t244 (((t244.extract 0 (a2 : Int).toNat) ++ (strOfNums y246)) ++ (t244.extract ((ji22) : Int).toNat t244.size)) (t251 != (-1)))) else (supercargolaw03_MarkOne.j1 kj7 t244 (((t244.extract 0 (a2 : Int).toNat) ++ (strOfNums y246)) ++ (t244.extract ((ji22) : Int).toNat t244.size)) true))) = some r := by rw [if_neg (show ¬ (false = true) by decide)] at H; exact H
                          clear H
                          have H := H1
                          clear H1
                          replace H := Option.bind_eq_some_iff.mp H
                          obtain ⟨t250, A330, H⟩ := H
                          replace H : (if t250.toList = ([] : List UInt8) then ((mark_Number.f kj7 (((t244.extract 0 (a2 : Int).toNat) ++ (strOfNums y246)) ++ (t244.extract ((ji22) : Int).toNat t244.size))).bind fun t251 => (supercargolaw03_MarkOne.j1 kj7 t244 (((t244.extract 0 (a2 : Int).toNat) ++ (strOfNums y246)) ++ (t244.extract ((ji22) : Int).toNat t244.size)) (t251 != (-1)))) else (supercargolaw03_MarkOne.j1 kj7 t244 (((t244.extract 0 (a2 : Int).toNat) ++ (strOfNums y246)) ++ (t244.extract ((ji22) : Int).toNat t244.size)) true)) = some r := H
                          have A33 := Aside0.mk A330
                          clear A330
                          by_cases c34 : t250.toList = ([] : List UInt8)
                          · rw [if_pos c34] at H
                            have c34b0 : (t250.toList == ([] : List UInt8)) = true := beq_iff_eq.mpr c34
                            have c34b1 : (t250.toList != ([] : List UInt8)) = false := bne_eq_false_iff_eq.mpr c34
                            clear c34
                            (first | rw [c34b0] | (simp only [i64_w, i32_w]; rw [c34b0]) | skip)
                            replace H := Option.bind_eq_some_iff.mp H
                            obtain ⟨t251, A350, H⟩ := H
                            replace H : (supercargolaw03_MarkOne.j1 kj7 t244 (((t244.extract 0 (a2 : Int).toNat) ++ (strOfNums y246)) ++ (t244.extract ((ji22) : Int).toNat t244.size)) (t251 != (-1))) = some r := H
                            have A35 := Aside0.mk A350
                            clear A350
                            have H' := Aside0.mk H
                            clear H
                            go_wp2_with (first | ((with_reducible refine gate_callee (f := 15) rfl ?_); refine goesL_ (some 58) rfl rfl Tryd.func15 (by kernel_rfl) rfl #[.string (((t244.extract 0 (a2 : Int).toNat) ++ (strOfNums y246)) ++ (t244.extract ((ji22) : Int).toNat t244.size))] rfl (by (try simp only [List.map_toArray, List.map_cons, List.map_nil]); first | done | (simp only [hji22]; rfl) | rfl | (simp only [List.length_drop, List.length_take]; rfl)) ?_; (with_reducible refine (mark_Right.calls (((t244.extract 0 (a2 : Int).toNat) ++ (strOfNums y246)) ++ (t244.extract ((ji22) : Int).toNat t244.size)) false _ A31.out).mono ?_); rintro e w' ⟨rfl, ⟨nd, rfl⟩⟩; refine ⟨_, rfl, ?_⟩) | (go_at_call 21; (with_reducible refine (mark_Owner.calls (((t244.extract 0 (a2 : Int).toNat) ++ (strOfNums y246)) ++ (t244.extract ((ji22) : Int).toNat t244.size)) t250 _ A33.out).mono ?_); rintro e w' ⟨rfl, ⟨nd, rfl⟩⟩) | (go_at_call 22; (with_reducible refine (mark_Number.calls kj7 (((t244.extract 0 (a2 : Int).toNat) ++ (strOfNums y246)) ++ (t244.extract ((ji22) : Int).toNat t244.size)) t251 _ A35.out).mono ?_); rintro e w' ⟨rfl, ⟨nd, rfl⟩⟩))
                            go_meet
                            case rel => exact ⟨_, ((t251 != (-1))), (by first | rfl | (simp; done) | (simp [*]; done)), H', ⟨by have := HJ7.out; first | omega | exact Nat.le_refl _⟩, ⟨by repeat (first | (with_reducible first | exact HB.out | apply below_alloc | apply pw_below_drewN | apply below_drew1) | exact HB.out)⟩⟩
                          · rw [if_neg c34] at H
                            have c34b0 : (t250.toList == ([] : List UInt8)) = false := beq_eq_false_iff_ne.mpr c34
                            have c34b1 : (t250.toList != ([] : List UInt8)) = true := bne_iff_ne.mpr c34
                            (first | rw [c34b0] | (simp only [i64_w, i32_w]; rw [c34b0]) | skip)
                            have H' := Aside0.mk H
                            clear H
                            go_wp2_with (first | ((with_reducible refine gate_callee (f := 15) rfl ?_); refine goesL_ (some 58) rfl rfl Tryd.func15 (by kernel_rfl) rfl #[.string (((t244.extract 0 (a2 : Int).toNat) ++ (strOfNums y246)) ++ (t244.extract ((ji22) : Int).toNat t244.size))] rfl (by (try simp only [List.map_toArray, List.map_cons, List.map_nil]); first | done | (simp only [hji22]; rfl) | rfl | (simp only [List.length_drop, List.length_take]; rfl)) ?_; (with_reducible refine (mark_Right.calls (((t244.extract 0 (a2 : Int).toNat) ++ (strOfNums y246)) ++ (t244.extract ((ji22) : Int).toNat t244.size)) false _ A31.out).mono ?_); rintro e w' ⟨rfl, ⟨nd, rfl⟩⟩; refine ⟨_, rfl, ?_⟩) | (go_at_call 21; (with_reducible refine (mark_Owner.calls (((t244.extract 0 (a2 : Int).toNat) ++ (strOfNums y246)) ++ (t244.extract ((ji22) : Int).toNat t244.size)) t250 _ A33.out).mono ?_); rintro e w' ⟨rfl, ⟨nd, rfl⟩⟩))
                            go_meet
                            case rel => exact ⟨_, (true), (by first | rfl | (simp; done) | (simp [*]; done)), H', ⟨by have := HJ7.out; first | omega | exact Nat.le_refl _⟩, ⟨by repeat (first | (with_reducible first | exact HB.out | apply below_alloc | apply pw_below_drewN | apply below_drew1) | exact HB.out)⟩⟩
                      case rest =>
                        clear HC26
                        try clear c1
                        try clear p1
                        try clear q1
                        try clear hx1
                        try clear c2
                        try clear p2
                        try clear c3
                        try clear hcv3
                        try clear c6
                        try clear p6
                        try clear c10
                        try clear c11
                        try clear c11b0
                        try clear c11b1
                        try clear c12
                        try clear c12b0
                        try clear c13
                        try clear c13b0
                        try clear c14
                        try clear c14b0
                        try clear c15
                        try clear c15b0
                        try clear p16
                        try clear q16
                        try clear hx16
                        try clear c17
                        try clear c18
                        try clear c18b0
                        try clear c18b1
                        try clear c19
                        try clear c19b0
                        try clear c19b1
                        try clear c20
                        try clear c20b0
                        try clear c20b1
                        try clear c21
                        try clear c21b0
                        try clear c21b1
                        try clear c21b2
                        try clear c23
                        try clear c23b0
                        try clear c23b1
                        try clear c24
                        try clear c24b0
                        try clear c24b1
                        try clear c25
                        try clear c25b0
                        try clear c25b1
                        try clear c25b2
                        try clear hcv30
                        try clear c32
                        try clear c34
                        try clear c34b0
                        try clear c34b1
                        try clear p1
                        try clear p16
                        try clear p2
                        try clear q1
                        try clear q16
                        obtain ⟨kq, x68_25, rfl, HA, HJ25, HB⟩ := hcut
                        cases kq with
                        | zero => exact absurd HA.out (by simp [supercargolaw03_MarkOne.j1])
                        | succ kj25 =>
                          have H := HA.out
                          clear HA
                          simp only [supercargolaw03_MarkOne.j1] at H
                          by_cases c36 : x68_25 = true
                          · subst c36
                            have H1 : (some false) = some r := by rw [if_pos rfl] at H; exact H
                            clear H
                            have H := H1
                            clear H1
                            obtain rfl := Option.some.inj H
                            go_wp2
                            go_ret
                            exact ⟨by first | rfl | (simp [errW_none, errW_some] <;> rfl) | (simp only [← hji22]; first | rfl | (simp [errW_none, errW_some] <;> rfl)) | (simp [*, errW_none, errW_some] <;> rfl), by repeat (first | (with_reducible first | exact HB.out | apply below_alloc | apply pw_below_drewN | apply below_drew1) | exact HB.out)⟩
                          · replace c36 := Bool.eq_false_iff.mpr c36
                            subst c36
                            have H1 : ((mark_Mend.f (((t244.extract 0 (a2 : Int).toNat) ++ (strOfNums y246)) ++ (t244.extract ((ji22) : Int).toNat t244.size))).bind fun t252 => (supercargolaw03_MarkOne.l0 kj25 t244 t252 0)) = some r := by rw [if_neg (show ¬ (false = true) by decide)] at H; exact H
                            clear H
                            have H := H1
                            clear H1
                            replace H := Option.bind_eq_some_iff.mp H
                            obtain ⟨t252, A370, H⟩ := H
                            replace H : (supercargolaw03_MarkOne.l0 kj25 t244 t252 0) = some r := H
                            have A37 := Aside0.mk A370
                            clear A370
                            have H' := Aside0.mk H
                            clear H
                            go_wp2_with (first | ((with_reducible refine gate_callee (f := 23) rfl ?_); refine goesL_ (some 70) rfl rfl Tryd.func23 (by kernel_rfl) rfl #[.string (((t244.extract 0 (a2 : Int).toNat) ++ (strOfNums y246)) ++ (t244.extract ((ji22) : Int).toNat t244.size))] rfl (by (try simp only [List.map_toArray, List.map_cons, List.map_nil]); first | done | (simp only [hji22]; rfl) | rfl | (simp only [List.length_drop, List.length_take]; rfl)) ?_; (with_reducible refine (mark_Mend.calls (((t244.extract 0 (a2 : Int).toNat) ++ (strOfNums y246)) ++ (t244.extract ((ji22) : Int).toNat t244.size)) t252 _ A37.out).mono ?_); rintro e w38 ⟨v253, rfl, ho0, hb⟩; refine ⟨_, rfl, ?_⟩; have n0_ := Aside0.mk (Kd.R_lower ho0 (below_size (by repeat (first | (with_reducible first | exact HB.out | apply below_alloc | apply pw_below_drewN | apply below_drew1) | exact HB.out)))); have n1_ := Aside0.mk (below_step (by repeat (first | (with_reducible first | exact HB.out | apply below_alloc | apply pw_below_drewN | apply below_drew1) | exact HB.out)) hb); clear HB; have HO254 := n0_; have HB := n1_; clear n0_ n1_; (try clear hb); (try clear hb2); (try clear hk); (try clear hi); (try clear ho0)))
                            go_loopg [13] kj25 (fun kq v13 w' => ∃ (x13_3 : Int), v13 = .int .i64 x13_3 ∧ Aside0 (supercargolaw03_MarkOne.l0 kq t244 t252 x13_3 = some r) ∧ Aside0 (kq ≤ kj25) ∧ Aside0 (Kd.R Kd.string 9 w' w.heap.size (fun _ => True) v253 t252) ∧ Aside0 (Below w.heap.size w w'))
                            case atStart => exact ⟨(0), (by first | rfl | (simp; done) | (simp [*]; done)), H', ⟨Nat.le_refl _⟩, ⟨by (with_reducible repeat (first | apply Kd.R_alloc | apply Kd.R_drewN | apply Kd.R_drew)); exact HO254.out⟩, ⟨by repeat (first | (with_reducible first | exact HB.out | apply below_alloc | apply pw_below_drewN | apply below_drew1) | exact HB.out)⟩⟩
                            case round =>
                              clear H'
                              try clear c1
                              try clear p1
                              try clear q1
                              try clear hx1
                              try clear c2
                              try clear p2
                              try clear c3
                              try clear hcv3
                              try clear c6
                              try clear p6
                              try clear c10
                              try clear c11
                              try clear c11b0
                              try clear c11b1
                              try clear c12
                              try clear c12b0
                              try clear c13
                              try clear c13b0
                              try clear c14
                              try clear c14b0
                              try clear c15
                              try clear c15b0
                              try clear p16
                              try clear q16
                              try clear hx16
                              try clear c17
                              try clear c18
                              try clear c18b0
                              try clear c18b1
                              try clear c19
                              try clear c19b0
                              try clear c19b1
                              try clear c20
                              try clear c20b0
                              try clear c20b1
                              try clear c21
                              try clear c21b0
                              try clear c21b1
                              try clear c21b2
                              try clear c23
                              try clear c23b0
                              try clear c23b1
                              try clear c24
                              try clear c24b0
                              try clear c24b1
                              try clear c25
                              try clear c25b0
                              try clear c25b1
                              try clear c25b2
                              try clear hcv30
                              try clear c32
                              try clear c34
                              try clear c34b0
                              try clear c34b1
                              try clear c36
                              try clear p1
                              try clear p16
                              try clear p2
                              try clear p6
                              try clear q1
                              try clear q16
                              obtain ⟨x13_3, rfl, HA, HK3, HO_12, HB⟩ := hrel
                              cases gk with
                              | zero => exact absurd HA.out (by simp [supercargolaw03_MarkOne.l0])
                              | succ k3 =>
                                have H := HA.out
                                clear HA
                                simp only [supercargolaw03_MarkOne.l0] at H
                                by_cases c39 : x13_3 < (t252.length : Int)
                                · rw [if_pos c39] at H
                                  have c39b0 : decide (x13_3 < (t252.length : Int)) = true := decide_eq_true c39
                                  clear c39
                                  by_cases c40 : 0 ≤ x13_3
                                  · rw [if_pos c40] at H
                                    have c40b0 : decide (0 ≤ x13_3) = true := decide_eq_true c40
                                    clear c40
                                    by_cases c41 : (rdOf ByteArray.empty t252 x13_3).toList = t244.toList
                                    · rw [if_pos c41] at H
                                      have c41b0 : ((rdOf ByteArray.empty t252 x13_3).toList == t244.toList) = true := beq_iff_eq.mpr c41
                                      have c41b1 : ((rdOf ByteArray.empty t252 x13_3).toList != t244.toList) = false := bne_eq_false_iff_eq.mpr c41
                                      clear c41
                                      obtain rfl := Option.some.inj H
                                      obtain ⟨Ao42, co42, eo42⟩ := Kd.R_slice HO_12.out
                                      subst eo42
                                      have p255 : 0 ≤ (x13_3 : Int) := of_decide_eq_true (by first | (with_reducible assumption) | assumption)
                                      have q255 : x13_3 < (t252.length : Int) := of_decide_eq_true (by first | (with_reducible assumption) | assumption)
                                      obtain ⟨ad255, e255, hx255_0⟩ := Kd.at_string (Kd.R_reads' HO_12.out).2.2 x13_3 p255 q255
                                      cases e255
                                      replace p255 := eq_true p255
                                      replace q255 := eq_true q255
                                      go_wp2
                                      go_ret
                                      exact ⟨by first | rfl | (simp [errW_none, errW_some] <;> rfl) | (simp only [← hji22]; first | rfl | (simp [errW_none, errW_some] <;> rfl)) | (simp [*, errW_none, errW_some] <;> rfl), by repeat (first | (with_reducible first | exact HB.out | apply below_alloc | apply pw_below_drewN | apply below_drew1) | exact HB.out)⟩
                                    · rw [if_neg c41] at H
                                      have c41b0 : ((rdOf ByteArray.empty t252 x13_3).toList == t244.toList) = false := beq_eq_false_iff_ne.mpr c41
                                      have c41b1 : ((rdOf ByteArray.empty t252 x13_3).toList != t244.toList) = true := bne_iff_ne.mpr c41
                                      have H' := Aside0.mk H
                                      clear H
                                      obtain ⟨Ao43, co43, eo43⟩ := Kd.R_slice HO_12.out
                                      subst eo43
                                      have p255 : 0 ≤ (x13_3 : Int) := of_decide_eq_true (by first | (with_reducible assumption) | assumption)
                                      have q255 : x13_3 < (t252.length : Int) := of_decide_eq_true (by first | (with_reducible assumption) | assumption)
                                      obtain ⟨ad255, e255, hx255_0⟩ := Kd.at_string (Kd.R_reads' HO_12.out).2.2 x13_3 p255 q255
                                      cases e255
                                      replace p255 := eq_true p255
                                      replace q255 := eq_true q255
                                      go_wp2
                                      go_roundg k3
                                      case measure => have := HJ7.out; have := HJ25.out; have := HK3.out; omega
                                      case rel => exact ⟨(wrap64 (x13_3 + 1)), (by first | rfl | (simp; done) | (simp [*]; done)), H', ⟨by have := HJ7.out; have := HJ25.out; have := HK3.out; omega⟩, ⟨by (with_reducible repeat (first | apply Kd.R_alloc | apply Kd.R_drewN | apply Kd.R_drew)); exact HO_12.out⟩, ⟨by repeat (first | (with_reducible first | exact HB.out | apply below_alloc | apply pw_below_drewN | apply below_drew1) | exact HB.out)⟩⟩
                                  · rw [if_neg c40] at H
                                    exact absurd H (by simp)
                                · rw [if_neg c39] at H
                                  have c39b0 : decide (x13_3 < (t252.length : Int)) = false := decide_eq_false c39
                                  clear c39
                                  obtain rfl := Option.some.inj H
                                  obtain ⟨Ao44, co44, eo44⟩ := Kd.R_slice HO_12.out
                                  subst eo44
                                  go_wp2
                                  go_ret
                                  exact ⟨by first | rfl | (simp [errW_none, errW_some] <;> rfl) | (simp only [← hji22]; first | rfl | (simp [errW_none, errW_some] <;> rfl)) | (simp [*, errW_none, errW_some] <;> rfl), by repeat (first | (with_reducible first | exact HB.out | apply below_alloc | apply pw_below_drewN | apply below_drew1) | exact HB.out)⟩
                    · rw [if_neg c25] at H
                      exact absurd H (by simp)
                  · rw [if_neg c24] at H
                    exact absurd H (by simp)
                · rw [if_neg c23] at H
                  exact absurd H (by simp)
              · rw [if_neg c21] at H
                exact absurd H (by simp)
            · rw [if_neg c20] at H
              exact absurd H (by simp)
          · rw [if_neg c19] at H
            exact absurd H (by simp)
  · replace c6 := Bool.eq_false_iff.mpr c6
    subst c6
    have H1 : (some false) = some r := by rw [if_neg (show ¬ (false = true) by decide)] at H; exact H
    clear H
    have H := H1
    clear H1
    obtain rfl := Option.some.inj H
    go_enter Tryd.func10, Tryd.ntmps10
    go_wp2_with (first | ((with_reducible refine gate_callee (f := 11) rfl ?_); refine goesL_ (some 14) rfl rfl Tryd.func11 (by kernel_rfl) rfl #[] rfl (by (try simp only [List.map_toArray, List.map_cons, List.map_nil]); first | done | rfl | (simp only [List.length_drop, List.length_take]; rfl)) ?_; (with_reducible refine (supercargolaw03_awake.calls  false _ A5.out (TB.below HT (by repeat (first | (with_reducible first | exact HB.out | apply below_alloc | apply pw_below_drewN | apply below_drew1) | exact HB.out)))).mono ?_); rintro e w45 ⟨rfl, hb⟩; refine ⟨_, rfl, ?_⟩; have n0_ := Aside0.mk (below_step (by repeat (first | (with_reducible first | exact HB.out | apply below_alloc | apply pw_below_drewN | apply below_drew1) | exact HB.out)) hb); clear HB; have HB := n0_; clear n0_; (try clear hb); (try clear hb2); (try clear hk); (try clear hi)))
    go_ret
    exact ⟨by first | rfl | (simp [errW_none, errW_some] <;> rfl) | (simp [*, errW_none, errW_some] <;> rfl), by repeat (first | (with_reducible first | exact HB.out | apply below_alloc | apply pw_below_drewN | apply below_drew1) | exact HB.out)⟩

end Go.Proofs.YtkfcllapmkeihaaDoor.X
