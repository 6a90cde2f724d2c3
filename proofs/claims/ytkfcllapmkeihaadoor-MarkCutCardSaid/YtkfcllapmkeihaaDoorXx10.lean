-- Written by wip/xprint.py (this session) over the kit's print.py
import Derived.Test.YtkfcllapmkeihaaDoorXx0
import Derived.Test.YtkfcllapmkeihaaDoorXx1
namespace Go.Proofs.YtkfcllapmkeihaaDoor.X
open Go.RowKit Go.Proofs.YtkfcllapmkeihaaDoor.Ext Go.Proofs.YtkfcllapmkeihaaDoorW.PrintWords Go.Proofs.YtkfcllapmkeihaaDoorW.PrintLast Go.Proofs.YtkfcllapmkeihaaDoorW.PrintMore
attribute [local go_sem] max2_int min2_int max_two min_two max_three min_three max_four min_four   -- for this text's walks alone
set_option linter.unusedVariables false
set_option linter.unusedSimpArgs false

/-! ### supercargolaw03_MarkCut: function 9 -/
mutual
def supercargolaw03_MarkCut.j0 : Nat → ByteArray → Int → ByteArray → Int → Bool → Option (Bool)
  | 0, _, _, _, _, _ => none
  | k + 1, x2, x3, x9, x10, x33 => if x33 = true then (if x10 = 0 then (some true) else (some (x9.toList == ([] : List UInt8)))) else (if 0 ≤ x3 then (if x3 ≤ (x9.size : Int) then ((mark_Right.f (x9.extract 0 (x3 : Int).toNat)).bind fun t233 => (if t233 = true then (supercargolaw03_MarkCut.j1 k x3 x9 true) else (if x9.size + x2.size ≤ 9223372036854775807 then ((mark_Right.f (x9 ++ x2)).bind fun t234 => (if (t234 != x2.toList.isEmpty) = true then (supercargolaw03_MarkCut.j1 k x3 x9 true) else ((mark_Sum.f (x9 ++ x2)).bind fun t235 => ((mark_Sum.f x9).bind fun t236 => (if t235 = t236 then ((mark_Sum.f x9).bind fun t236 => (if t236 < 0 then (supercargolaw03_MarkCut.j1 k x3 x9 true) else ((mark_Sum.f x9).bind fun t236 => (supercargolaw03_MarkCut.j1 k x3 x9 (decide (t236 > 96)))))) else (supercargolaw03_MarkCut.j1 k x3 x9 true)))))) else (none)))) else (none)) else (none))
def supercargolaw03_MarkCut.j1 : Nat → Int → ByteArray → Bool → Option (Bool)
  | 0, _, _, _ => none
  | k + 1, x3, x9, x71 => if x71 = true then (some false) else (if 0 ≤ x3 then (if x3 ≤ (x9.size : Int) then ((mark_Sum.f (x9.extract 0 (x3 : Int).toNat)).bind fun t239 => (if ((decide (t239 ≥ 0)) == (decide (x3 ≥ 10))) = true then ((mark_Mend.f (x9.extract 0 (x3 : Int).toNat)).bind fun t240 => (some ((t240.length : Int) == 0))) else (some false))) else (none)) else (none))
end
def supercargolaw03_MarkCut.f (k : Nat) (a0 : ByteArray) (a1 : Int) (a2 : ByteArray) (a3 : Int) : Option (Bool) := (supercargolaw03_awake.f).bind fun t230 => (if t230 = true then ((mark_Make.f a0 a1).bind fun bt231 => (if bt231.2 = 0 then (if (a2.size : Int) > 50 then (supercargolaw03_MarkCut.j0 k a2 a3 bt231.1 bt231.2 true) else (if a3 < 0 then (supercargolaw03_MarkCut.j0 k a2 a3 bt231.1 bt231.2 true) else (supercargolaw03_MarkCut.j0 k a2 a3 bt231.1 bt231.2 (decide (a3 > 11))))) else (supercargolaw03_MarkCut.j0 k a2 a3 bt231.1 bt231.2 true))) else (some false))
theorem supercargolaw03_MarkCut.mono_l : ∀ k, (∀ y0 y1 y2 y3 y4, LeO (supercargolaw03_MarkCut.j0 k y0 y1 y2 y3 y4) (supercargolaw03_MarkCut.j0 (k + 1) y0 y1 y2 y3 y4)) ∧ (∀ y0 y1 y2, LeO (supercargolaw03_MarkCut.j1 k y0 y1 y2) (supercargolaw03_MarkCut.j1 (k + 1) y0 y1 y2))
  | 0 => ⟨fun _ _ _ _ _ r h => by simp [supercargolaw03_MarkCut.j0] at h, fun _ _ _ r h => by simp [supercargolaw03_MarkCut.j1] at h⟩
  | k + 1 => by
    obtain ⟨ih0, ih1⟩ := supercargolaw03_MarkCut.mono_l k
    refine ⟨?_, ?_⟩
    · intro y0 y1 y2 y3 y4
      unfold supercargolaw03_MarkCut.j0
      repeat' first
      | (with_reducible exact ih0 _ _ _ _ _)
      | (with_reducible exact ih1 _ _ _)
      | (with_reducible exact LeO.refl _)
      | (with_reducible exact LeO.none _)
      | (with_reducible refine LeO.ite ?_ ?_)
      | (with_reducible refine LeO.bind ?_ (fun _ => ?_))
      | exact ih0 _ _ _ _ _
      | exact ih1 _ _ _
      | exact LeO.none _
      | refine LeO.ite ?_ ?_
      | refine LeO.bind ?_ (fun _ => ?_)
    · intro y0 y1 y2
      unfold supercargolaw03_MarkCut.j1
      repeat' first
      | (with_reducible exact ih0 _ _ _ _ _)
      | (with_reducible exact ih1 _ _ _)
      | (with_reducible exact LeO.refl _)
      | (with_reducible exact LeO.none _)
      | (with_reducible refine LeO.ite ?_ ?_)
      | (with_reducible refine LeO.bind ?_ (fun _ => ?_))
      | exact ih0 _ _ _ _ _
      | exact ih1 _ _ _
      | exact LeO.none _
      | refine LeO.ite ?_ ?_
      | refine LeO.bind ?_ (fun _ => ?_)
theorem supercargolaw03_MarkCut.mono : ∀ a0 a1 a2 a3 k, LeO (supercargolaw03_MarkCut.f k a0 a1 a2 a3) (supercargolaw03_MarkCut.f (k + 1) a0 a1 a2 a3) := by
  intro a0 a1 a2 a3 k
  obtain ⟨ih0, ih1⟩ := supercargolaw03_MarkCut.mono_l k
  unfold supercargolaw03_MarkCut.f
  repeat' first
      | (with_reducible exact ih0 _ _ _ _ _)
      | (with_reducible exact ih1 _ _ _)
      | (with_reducible exact LeO.refl _)
      | (with_reducible exact LeO.none _)
      | (with_reducible refine LeO.ite ?_ ?_)
      | (with_reducible refine LeO.bind ?_ (fun _ => ?_))
      | exact ih0 _ _ _ _ _
      | exact ih1 _ _ _
      | exact LeO.none _
      | refine LeO.ite ?_ ?_
      | refine LeO.bind ?_ (fun _ => ?_)
set_option maxHeartbeats 8000000 in
set_option maxRecDepth 100000 in
theorem supercargolaw03_MarkCut.calls (k : Nat) (a0 : ByteArray) (a1 : Int) (a2 : ByteArray) (a3 : Int) (r : Bool) (w : World) (h : supercargolaw03_MarkCut.f k a0 a1 a2 a3 = some r) (HT : TB w) :
    Calls Tryd.prog 9 #[.string a0, .int .i64 a1, .string a2, .int .i64 a3] w fun e w' => e = .returned (.bool r) ∧ Below w.heap.size w w' := by
  have HB := Aside0.mk (Below.refl w.heap.size w)
  have H : ((supercargolaw03_awake.f).bind fun t230 => (if t230 = true then ((mark_Make.f a0 a1).bind fun bt231 => (if bt231.2 = 0 then (if (a2.size : Int) > 50 then (supercargolaw03_MarkCut.j0 k a2 a3 bt231.1 bt231.2 true) else (if a3 < 0 then (supercargolaw03_MarkCut.j0 k a2 a3 bt231.1 bt231.2 true) else (supercargolaw03_MarkCut.j0 k a2 a3 bt231.1 bt231.2 (decide (a3 > 11))))) else (supercargolaw03_MarkCut.j0 k a2 a3 bt231.1 bt231.2 true))) else (some false))) = some r := h
  clear h
  replace H := Option.bind_eq_some_iff.mp H
  obtain ⟨t230, A50, H⟩ := H
  replace H : (if t230 = true then ((mark_Make.f a0 a1).bind fun bt231 => (if bt231.2 = 0 then (if (a2.size : Int) > 50 then (supercargolaw03_MarkCut.j0 k a2 a3 bt231.1 bt231.2 true) else (if a3 < 0 then (supercargolaw03_MarkCut.j0 k a2 a3 bt231.1 bt231.2 true) else (supercargolaw03_MarkCut.j0 k a2 a3 bt231.1 bt231.2 (decide (a3 > 11))))) else (supercargolaw03_MarkCut.j0 k a2 a3 bt231.1 bt231.2 true))) else (some false)) = some r := H
  have A5 := Aside0.mk A50
  clear A50
  by_cases c6 : t230 = true
  · subst c6
    have H1 : ((mark_Make.f a0 a1).bind fun bt231 => (if bt231.2 = 0 then (if (a2.size : Int) > 50 then (supercargolaw03_MarkCut.j0 k a2 a3 bt231.1 bt231.2 true) else (if a3 < 0 then (supercargolaw03_MarkCut.j0 k a2 a3 bt231.1 bt231.2 true) else (supercargolaw03_MarkCut.j0 k a2 a3 bt231.1 bt231.2 (decide (a3 > 11))))) else (supercargolaw03_MarkCut.j0 k a2 a3 bt231.1 bt231.2 true))) = some r := by rw [if_pos rfl] at H; exact H
    clear H
    have H := H1
    clear H1
    replace H := Option.bind_eq_some_iff.mp H
    obtain ⟨⟨t231, t232⟩, A70, H⟩ := H
    replace H : (if t232 = 0 then (if (a2.size : Int) > 50 then (supercargolaw03_MarkCut.j0 k a2 a3 t231 t232 true) else (if a3 < 0 then (supercargolaw03_MarkCut.j0 k a2 a3 t231 t232 true) else (supercargolaw03_MarkCut.j0 k a2 a3 t231 t232 (decide (a3 > 11))))) else (supercargolaw03_MarkCut.j0 k a2 a3 t231 t232 true)) = some r := H
    have A7 := Aside0.mk A70
    clear A70
    have HC8 := Aside0.mk H
    clear H
    go_enter Tryd.func9, Tryd.ntmps9
    go_upto_region 4 with (first | ((with_reducible refine gate_callee (f := 11) rfl ?_); refine goesL_ (some 11) rfl rfl Tryd.func11 (by kernel_rfl) rfl #[] rfl (by (try simp only [List.map_toArray, List.map_cons, List.map_nil]); first | done | rfl | (simp only [List.length_drop, List.length_take]; rfl)) ?_; (with_reducible refine (supercargolaw03_awake.calls  true _ A5.out (TB.below HT (by repeat (first | (with_reducible first | exact HB.out | apply below_alloc | apply pw_below_drewN | apply below_drew1) | exact HB.out)))).mono ?_); rintro e w9 ⟨rfl, hb⟩; refine ⟨_, rfl, ?_⟩; have n0_ := Aside0.mk (below_step (by repeat (first | (with_reducible first | exact HB.out | apply below_alloc | apply pw_below_drewN | apply below_drew1) | exact HB.out)) hb); clear HB; have HB := n0_; clear n0_; (try clear hb); (try clear hb2); (try clear hk); (try clear hi)) | ((with_reducible refine gate_callee (f := 12) rfl ?_); refine goesL_ (some 16) rfl rfl Tryd.func12 (by kernel_rfl) rfl #[.string a0, .int .i64 a1] rfl (by (try simp only [List.map_toArray, List.map_cons, List.map_nil]); first | done | rfl | (simp only [List.length_drop, List.length_take]; rfl)) ?_; (with_reducible refine (mark_Make.calls a0 a1 t231 t232 _ A7.out (TB.below HT (by repeat (first | (with_reducible first | exact HB.out | apply below_alloc | apply pw_below_drewN | apply below_drew1) | exact HB.out)))).mono ?_); rintro e w10 ⟨rfl, hb⟩; refine ⟨_, rfl, ?_⟩; have n0_ := Aside0.mk (below_step (by repeat (first | (with_reducible first | exact HB.out | apply below_alloc | apply pw_below_drewN | apply below_drew1) | exact HB.out)) hb); clear HB; have HB := n0_; clear n0_; (try clear hb); (try clear hb2); (try clear hk); (try clear hi)))
    (try simp only [Act.put, List.setIfInBounds_toArray, List.set_cons_zero, List.set_cons_succ])
    go_cut [33] (fun v33 wc => ∃ (kq : Nat) (x33_7 : Bool), v33 = .bool x33_7 ∧ Aside0 (supercargolaw03_MarkCut.j0 kq a2 a3 t231 t232 x33_7 = some r) ∧ Aside0 (kq ≤ k) ∧ Aside0 (Below w.heap.size w wc))
    case first =>
      have H := HC8.out
      clear HC8
      by_cases c11 : t232 = 0
      · rw [if_pos c11] at H
        have c11b0 : (t232 == 0) = true := beq_iff_eq.mpr c11
        have c11b1 : (t232 != 0) = false := bne_eq_false_iff_eq.mpr c11
        clear c11
        (first | rw [c11b0] | (simp only [i64_w, i32_w]; rw [c11b0]) | skip)
        by_cases c12 : (a2.size : Int) > 50
        · rw [if_pos c12] at H
          have c12b0 : decide (50 < (a2.size : Int)) = true := decide_eq_true c12
          have c12b1 : decide (50 < a2.size) = true := decide_eq_true (by omega)
          clear c12
          have H' := Aside0.mk H
          clear H
          go_wp2
          go_meet
          case rel => exact ⟨_, (true), (by first | rfl | (simp; done) | (simp [*]; done)), H', ⟨by first | omega | exact Nat.le_refl _⟩, ⟨by repeat (first | (with_reducible first | exact HB.out | apply below_alloc | apply pw_below_drewN | apply below_drew1) | exact HB.out)⟩⟩
        · rw [if_neg c12] at H
          have c12b0 : decide (50 < (a2.size : Int)) = false := decide_eq_false c12
          have c12b1 : decide (50 < a2.size) = false := decide_eq_false (by omega)
          clear c12
          by_cases c13 : a3 < 0
          · rw [if_pos c13] at H
            have c13b0 : decide (a3 < 0) = true := decide_eq_true c13
            clear c13
            have H' := Aside0.mk H
            clear H
            go_wp2
            go_meet
            case rel => exact ⟨_, (true), (by first | rfl | (simp; done) | (simp [*]; done)), H', ⟨by first | omega | exact Nat.le_refl _⟩, ⟨by repeat (first | (with_reducible first | exact HB.out | apply below_alloc | apply pw_below_drewN | apply below_drew1) | exact HB.out)⟩⟩
          · rw [if_neg c13] at H
            have c13b0 : decide (a3 < 0) = false := decide_eq_false c13
            clear c13
            have H' := Aside0.mk H
            clear H
            go_wp2
            go_meet
            case rel => exact ⟨_, (decide (a3 > 11)), (by first | rfl | (simp; done) | (simp [*]; done)), H', ⟨by first | omega | exact Nat.le_refl _⟩, ⟨by repeat (first | (with_reducible first | exact HB.out | apply below_alloc | apply pw_below_drewN | apply below_drew1) | exact HB.out)⟩⟩
      · rw [if_neg c11] at H
        have c11b0 : (t232 == 0) = false := beq_eq_false_iff_ne.mpr c11
        have c11b1 : (t232 != 0) = true := bne_iff_ne.mpr c11
        (first | rw [c11b0] | (simp only [i64_w, i32_w]; rw [c11b0]) | skip)
        have H' := Aside0.mk H
        clear H
        go_wp2
        go_meet
        case rel => exact ⟨_, (true), (by first | rfl | (simp; done) | (simp [*]; done)), H', ⟨by first | omega | exact Nat.le_refl _⟩, ⟨by repeat (first | (with_reducible first | exact HB.out | apply below_alloc | apply pw_below_drewN | apply below_drew1) | exact HB.out)⟩⟩
    case rest =>
      clear HC8
      try clear c1
      try clear p2
      try clear c6
      try clear c9
      try clear c11
      try clear c11b0
      try clear c11b1
      try clear c12
      try clear c12b0
      try clear c12b1
      try clear c13
      try clear c13b0
      obtain ⟨kq, x33_7, rfl, HA, HJ7, HB⟩ := hcut
      cases kq with
      | zero => exact absurd HA.out (by simp [supercargolaw03_MarkCut.j0])
      | succ kj7 =>
        have H := HA.out
        clear HA
        simp only [supercargolaw03_MarkCut.j0] at H
        by_cases c14 : x33_7 = true
        · subst c14
          have H1 : (if t232 = 0 then (some true) else (some (t231.toList == ([] : List UInt8)))) = some r := by rw [if_pos rfl] at H; exact H
          clear H
          have H := H1
          clear H1
          by_cases c15 : t232 = 0
          · rw [if_pos c15] at H
            have c15b0 : (t232 == 0) = true := beq_iff_eq.mpr c15
            have c15b1 : (t232 != 0) = false := bne_eq_false_iff_eq.mpr c15
            clear c15
            obtain rfl := Option.some.inj H
            go_wp2
            go_ret
            exact ⟨by first | rfl | (simp [errW_none, errW_some] <;> rfl) | (simp [*, errW_none, errW_some] <;> rfl), by repeat (first | (with_reducible first | exact HB.out | apply below_alloc | apply pw_below_drewN | apply below_drew1) | exact HB.out)⟩
          · rw [if_neg c15] at H
            have c15b0 : (t232 == 0) = false := beq_eq_false_iff_ne.mpr c15
            have c15b1 : (t232 != 0) = true := bne_iff_ne.mpr c15
            obtain rfl := Option.some.inj H
            go_wp2
            go_ret
            exact ⟨by first | rfl | (simp [errW_none, errW_some] <;> rfl) | (simp [*, errW_none, errW_some] <;> rfl), by repeat (first | (with_reducible first | exact HB.out | apply below_alloc | apply pw_below_drewN | apply below_drew1) | exact HB.out)⟩
        · replace c14 := Bool.eq_false_iff.mpr c14
          subst c14
          have H1 : (if 0 ≤ a3 then (if a3 ≤ (t231.size : Int) then ((mark_Right.f (t231.extract 0 (a3 : Int).toNat)).bind fun t233 => (if t233 = true then (supercargolaw03_MarkCut.j1 kj7 a3 t231 true) else (if t231.size + a2.size ≤ 9223372036854775807 then ((mark_Right.f (t231 ++ a2)).bind fun t234 => (if (t234 != a2.toList.isEmpty) = true then (supercargolaw03_MarkCut.j1 kj7 a3 t231 true) else ((mark_Sum.f (t231 ++ a2)).bind fun t235 => ((mark_Sum.f t231).bind fun t236 => (if t235 = t236 then ((mark_Sum.f t231).bind fun t236 => (if t236 < 0 then (supercargolaw03_MarkCut.j1 kj7 a3 t231 true) else ((mark_Sum.f t231).bind fun t236 => (supercargolaw03_MarkCut.j1 kj7 a3 t231 (decide (t236 > 96)))))) else (supercargolaw03_MarkCut.j1 kj7 a3 t231 true)))))) else (none)))) else (none)) else (none)) = some r := by rw [if_neg (show ¬ (false = true) by decide)] at H; exact H
          clear H
          have H := H1
          clear H1
          have HC16 := Aside0.mk H
          clear H
          go_upto_region 6 with (fail)
          go_cut [71] (fun v71 wc => ∃ (kq : Nat) (x71_15 : Bool), v71 = .bool x71_15 ∧ Aside0 (supercargolaw03_MarkCut.j1 kq a3 t231 x71_15 = some r) ∧ Aside0 (kq ≤ kj7) ∧ Aside0 (Below w.heap.size w wc))
          case first =>
            have H := HC16.out
            clear HC16
            by_cases c17 : 0 ≤ a3
            · rw [if_pos c17] at H
              have c17b0 := eq_true c17
              have c17b1 : decide (0 ≤ a3) = true := decide_eq_true c17
              clear c17
              by_cases c18 : a3 ≤ (t231.size : Int)
              · rw [if_pos c18] at H
                have c18b0 := eq_true c18
                have c18b1 : decide (a3 ≤ (t231.size : Int)) = true := decide_eq_true c18
                clear c18
                replace H := Option.bind_eq_some_iff.mp H
                obtain ⟨t233, A190, H⟩ := H
                replace H : (if t233 = true then (supercargolaw03_MarkCut.j1 kj7 a3 t231 true) else (if t231.size + a2.size ≤ 9223372036854775807 then ((mark_Right.f (t231 ++ a2)).bind fun t234 => (if (t234 != a2.toList.isEmpty) = true then (supercargolaw03_MarkCut.j1 kj7 a3 t231 true) else ((mark_Sum.f (t231 ++ a2)).bind fun t235 => ((mark_Sum.f t231).bind fun t236 => (if t235 = t236 then ((mark_Sum.f t231).bind fun t236 => (if t236 < 0 then (supercargolaw03_MarkCut.j1 kj7 a3 t231 true) else ((mark_Sum.f t231).bind fun t236 => (supercargolaw03_MarkCut.j1 kj7 a3 t231 (decide (t236 > 96)))))) else (supercargolaw03_MarkCut.j1 kj7 a3 t231 true)))))) else (none))) = some r := H
                have A19 := Aside0.mk A190
                clear A190
                by_cases c20 : t233 = true
                · subst c20
                  have H1 : (supercargolaw03_MarkCut.j1 kj7 a3 t231 true) = some r := by rw [if_pos rfl] at H; exact H
                  clear H
                  have H := H1
                  clear H1
                  have H' := Aside0.mk H
                  clear H
                  go_wp2_with (first | ((with_reducible refine gate_callee (f := 15) rfl ?_); refine goesL_ (some 43) rfl rfl Tryd.func15 (by kernel_rfl) rfl #[.string (t231.extract 0 (a3 : Int).toNat)] rfl (by (try simp only [List.map_toArray, List.map_cons, List.map_nil]); first | done | rfl | (simp only [List.length_drop, List.length_take]; rfl)) ?_; (with_reducible refine (mark_Right.calls (t231.extract 0 (a3 : Int).toNat) true _ A19.out).mono ?_); rintro e w' ⟨rfl, ⟨nd, rfl⟩⟩; refine ⟨_, rfl, ?_⟩))
                  go_meet
                  case rel => exact ⟨_, (true), (by first | rfl | (simp; done) | (simp [*]; done)), H', ⟨by have := HJ7.out; first | omega | exact Nat.le_refl _⟩, ⟨by repeat (first | (with_reducible first | exact HB.out | apply below_alloc | apply pw_below_drewN | apply below_drew1) | exact HB.out)⟩⟩
                · replace c20 := Bool.eq_false_iff.mpr c20
                  subst c20
                  have H1 : (if t231.size + a2.size ≤ 9223372036854775807 then ((mark_Right.f (t231 ++ a2)).bind fun t234 => (if (t234 != a2.toList.isEmpty) = true then (supercargolaw03_MarkCut.j1 kj7 a3 t231 true) else ((mark_Sum.f (t231 ++ a2)).bind fun t235 => ((mark_Sum.f t231).bind fun t236 => (if t235 = t236 then ((mark_Sum.f t231).bind fun t236 => (if t236 < 0 then (supercargolaw03_MarkCut.j1 kj7 a3 t231 true) else ((mark_Sum.f t231).bind fun t236 => (supercargolaw03_MarkCut.j1 kj7 a3 t231 (decide (t236 > 96)))))) else (supercargolaw03_MarkCut.j1 kj7 a3 t231 true)))))) else (none)) = some r := by rw [if_neg (show ¬ (false = true) by decide)] at H; exact H
                  clear H
                  have H := H1
                  clear H1
                  by_cases c21 : t231.size + a2.size ≤ 9223372036854775807
                  · rw [if_pos c21] at H
                    have c21b0 := eq_true c21
                    have c21b1 : decide (t231.size + a2.size ≤ 9223372036854775807) = true := decide_eq_true c21
                    try have c21b2 : (9223372036854775807 < t231.size + a2.size) = False := eq_false (Nat.not_lt.2 c21)
                    replace H := Option.bind_eq_some_iff.mp H
                    obtain ⟨t234, A220, H⟩ := H
                    replace H : (if (t234 != a2.toList.isEmpty) = true then (supercargolaw03_MarkCut.j1 kj7 a3 t231 true) else ((mark_Sum.f (t231 ++ a2)).bind fun t235 => ((mark_Sum.f t231).bind fun t236 => (if t235 = t236 then ((mark_Sum.f t231).bind fun t236 => (if t236 < 0 then (supercargolaw03_MarkCut.j1 kj7 a3 t231 true) else ((mark_Sum.f t231).bind fun t236 => (supercargolaw03_MarkCut.j1 kj7 a3 t231 (decide (t236 > 96)))))) else (supercargolaw03_MarkCut.j1 kj7 a3 t231 true))))) = some r := H
                    have A22 := Aside0.mk A220
                    clear A220
                    by_cases c23 : (t234 != a2.toList.isEmpty) = true
                    · rw [if_pos c23] at H
                      have c23b0 : (t234 != a2.toList.isEmpty) = true := c23
                      (try (have c23b1 : decide (t234 = a2.toList.isEmpty) = false := by simpa using c23))
                      (try (have c23b2 : (t234 == a2.toList.isEmpty) = false := by simpa using c23))
                      (try (have c23b3 : ¬ (t234 = a2.toList.isEmpty) := by simpa using c23))
                      clear c23
                      (first | rw [c23b0] | (simp only [i64_w, i32_w]; rw [c23b0]) | skip)
                      have H' := Aside0.mk H
                      clear H
                      go_wp2_with (first | ((with_reducible refine gate_callee (f := 15) rfl ?_); refine goesL_ (some 43) rfl rfl Tryd.func15 (by kernel_rfl) rfl #[.string (t231.extract 0 (a3 : Int).toNat)] rfl (by (try simp only [List.map_toArray, List.map_cons, List.map_nil]); first | done | rfl | (simp only [List.length_drop, List.length_take]; rfl)) ?_; (with_reducible refine (mark_Right.calls (t231.extract 0 (a3 : Int).toNat) false _ A19.out).mono ?_); rintro e w' ⟨rfl, ⟨nd, rfl⟩⟩; refine ⟨_, rfl, ?_⟩) | (go_at_call 15; (with_reducible refine (mark_Right.calls (t231 ++ a2) t234 _ A22.out).mono ?_); rintro e w' ⟨rfl, ⟨nd, rfl⟩⟩))
                      go_meet
                      case rel => exact ⟨_, (true), (by first | rfl | (simp; done) | (simp [*]; done)), H', ⟨by have := HJ7.out; first | omega | exact Nat.le_refl _⟩, ⟨by repeat (first | (with_reducible first | exact HB.out | apply below_alloc | apply pw_below_drewN | apply below_drew1) | exact HB.out)⟩⟩
                    · rw [if_neg c23] at H
                      have c23b0 : (t234 != a2.toList.isEmpty) = false := by simpa using c23
                      (try (have c23b1 : decide (t234 = a2.toList.isEmpty) = true := by simpa using c23))
                      (try (have c23b2 : (t234 == a2.toList.isEmpty) = true := by simpa using c23))
                      clear c23
                      (first | rw [c23b0] | (simp only [i64_w, i32_w]; rw [c23b0]) | skip)
                      replace H := Option.bind_eq_some_iff.mp H
                      obtain ⟨t235, A240, H⟩ := H
                      replace H : ((mark_Sum.f t231).bind fun t236 => (if t235 = t236 then ((mark_Sum.f t231).bind fun t236 => (if t236 < 0 then (supercargolaw03_MarkCut.j1 kj7 a3 t231 true) else ((mark_Sum.f t231).bind fun t236 => (supercargolaw03_MarkCut.j1 kj7 a3 t231 (decide (t236 > 96)))))) else (supercargolaw03_MarkCut.j1 kj7 a3 t231 true))) = some r := H
                      have A24 := Aside0.mk A240
                      clear A240
                      replace H := Option.bind_eq_some_iff.mp H
                      obtain ⟨t236, A250, H⟩ := H
                      replace H : (if t235 = t236 then ((mark_Sum.f t231).bind fun t236 => (if t236 < 0 then (supercargolaw03_MarkCut.j1 kj7 a3 t231 true) else ((mark_Sum.f t231).bind fun t236 => (supercargolaw03_MarkCut.j1 kj7 a3 t231 (decide (t236 > 96)))))) else (supercargolaw03_MarkCut.j1 kj7 a3 t231 true)) = some r := H
                      have A25 := Aside0.mk A250
                      clear A250
                      by_cases c26 : t235 = t236
                      · rw [if_pos c26] at H
                        have c26b0 : (t235 == t236) = true := beq_iff_eq.mpr c26
                        have c26b1 : (t235 != t236) = false := bne_eq_false_iff_eq.mpr c26
                        clear c26
                        replace H := Option.bind_eq_some_iff.mp H
                        obtain ⟨tz_, A270, H⟩ := H; obtain rfl : t236 = tz_ := Option.some.inj (A25.out.symm.trans A270)
                        replace H : (if t236 < 0 then (supercargolaw03_MarkCut.j1 kj7 a3 t231 true) else ((mark_Sum.f t231).bind fun t236 => (supercargolaw03_MarkCut.j1 kj7 a3 t231 (decide (t236 > 96))))) = some r := H
                        have A27 := Aside0.mk A270
                        clear A270
                        by_cases c28 : t236 < 0
                        · rw [if_pos c28] at H
                          have c28b0 : decide (t236 < 0) = true := decide_eq_true c28
                          clear c28
                          have H' := Aside0.mk H
                          clear H
                          go_wp2_with (first | ((with_reducible refine gate_callee (f := 15) rfl ?_); refine goesL_ (some 43) rfl rfl Tryd.func15 (by kernel_rfl) rfl #[.string (t231.extract 0 (a3 : Int).toNat)] rfl (by (try simp only [List.map_toArray, List.map_cons, List.map_nil]); first | done | rfl | (simp only [List.length_drop, List.length_take]; rfl)) ?_; (with_reducible refine (mark_Right.calls (t231.extract 0 (a3 : Int).toNat) false _ A19.out).mono ?_); rintro e w' ⟨rfl, ⟨nd, rfl⟩⟩; refine ⟨_, rfl, ?_⟩) | (go_at_call 15; (with_reducible refine (mark_Right.calls (t231 ++ a2) t234 _ A22.out).mono ?_); rintro e w' ⟨rfl, ⟨nd, rfl⟩⟩) | (go_at_call 20; (with_reducible refine (mark_Sum.calls (t231 ++ a2) t235 _ A24.out).mono ?_); rintro e w' ⟨rfl, ⟨nd, rfl⟩⟩) | (go_at_call 20; (with_reducible refine (mark_Sum.calls t231 t236 _ A25.out).mono ?_); rintro e w' ⟨rfl, ⟨nd, rfl⟩⟩) | (go_at_call 20; (with_reducible refine (mark_Sum.calls t231 t236 _ A27.out).mono ?_); rintro e w' ⟨rfl, ⟨nd, rfl⟩⟩))
                          go_meet
                          case rel => exact ⟨_, (true), (by first | rfl | (simp; done) | (simp [*]; done)), H', ⟨by have := HJ7.out; first | omega | exact Nat.le_refl _⟩, ⟨by repeat (first | (with_reducible first | exact HB.out | apply below_alloc | apply pw_below_drewN | apply below_drew1) | exact HB.out)⟩⟩
                        · rw [if_neg c28] at H
                          have c28b0 : decide (t236 < 0) = false := decide_eq_false c28
                          clear c28
                          replace H := Option.bind_eq_some_iff.mp H
                          obtain ⟨tz_, A290, H⟩ := H; obtain rfl : t236 = tz_ := Option.some.inj (A25.out.symm.trans A290)
                          replace H : (supercargolaw03_MarkCut.j1 kj7 a3 t231 (decide (t236 > 96))) = some r := H
                          have A29 := Aside0.mk A290
                          clear A290
                          have H' := Aside0.mk H
                          clear H
                          go_wp2_with (first | ((with_reducible refine gate_callee (f := 15) rfl ?_); refine goesL_ (some 43) rfl rfl Tryd.func15 (by kernel_rfl) rfl #[.string (t231.extract 0 (a3 : Int).toNat)] rfl (by (try simp only [List.map_toArray, List.map_cons, List.map_nil]); first | done | rfl | (simp only [List.length_drop, List.length_take]; rfl)) ?_; (with_reducible refine (mark_Right.calls (t231.extract 0 (a3 : Int).toNat) false _ A19.out).mono ?_); rintro e w' ⟨rfl, ⟨nd, rfl⟩⟩; refine ⟨_, rfl, ?_⟩) | (go_at_call 15; (with_reducible refine (mark_Right.calls (t231 ++ a2) t234 _ A22.out).mono ?_); rintro e w' ⟨rfl, ⟨nd, rfl⟩⟩) | (go_at_call 20; (with_reducible refine (mark_Sum.calls (t231 ++ a2) t235 _ A24.out).mono ?_); rintro e w' ⟨rfl, ⟨nd, rfl⟩⟩) | (go_at_call 20; (with_reducible refine (mark_Sum.calls t231 t236 _ A25.out).mono ?_); rintro e w' ⟨rfl, ⟨nd, rfl⟩⟩) | (go_at_call 20; (with_reducible refine (mark_Sum.calls t231 t236 _ A27.out).mono ?_); rintro e w' ⟨rfl, ⟨nd, rfl⟩⟩) | (go_at_call 20; (with_reducible refine (mark_Sum.calls t231 t236 _ A29.out).mono ?_); rintro e w' ⟨rfl, ⟨nd, rfl⟩⟩))
                          go_meet
                          case rel => exact ⟨_, (decide (t236 > 96)), (by first | rfl | (simp; done) | (simp [*]; done)), H', ⟨by have := HJ7.out; first | omega | exact Nat.le_refl _⟩, ⟨by repeat (first | (with_reducible first | exact HB.out | apply below_alloc | apply pw_below_drewN | apply below_drew1) | exact HB.out)⟩⟩
                      · rw [if_neg c26] at H
                        have c26b0 : (t235 == t236) = false := beq_eq_false_iff_ne.mpr c26
                        have c26b1 : (t235 != t236) = true := bne_iff_ne.mpr c26
                        have H' := Aside0.mk H
                        clear H
                        go_wp2_with (first | ((with_reducible refine gate_callee (f := 15) rfl ?_); refine goesL_ (some 43) rfl rfl Tryd.func15 (by kernel_rfl) rfl #[.string (t231.extract 0 (a3 : Int).toNat)] rfl (by (try simp only [List.map_toArray, List.map_cons, List.map_nil]); first | done | rfl | (simp only [List.length_drop, List.length_take]; rfl)) ?_; (with_reducible refine (mark_Right.calls (t231.extract 0 (a3 : Int).toNat) false _ A19.out).mono ?_); rintro e w' ⟨rfl, ⟨nd, rfl⟩⟩; refine ⟨_, rfl, ?_⟩) | (go_at_call 15; (with_reducible refine (mark_Right.calls (t231 ++ a2) t234 _ A22.out).mono ?_); rintro e w' ⟨rfl, ⟨nd, rfl⟩⟩) | (go_at_call 20; (with_reducible refine (mark_Sum.calls (t231 ++ a2) t235 _ A24.out).mono ?_); rintro e w' ⟨rfl, ⟨nd, rfl⟩⟩) | (go_at_call 20; (with_reducible refine (mark_Sum.calls t231 t236 _ A25.out).mono ?_); rintro e w' ⟨rfl, ⟨nd, rfl⟩⟩))
                        go_meet
                        case rel => exact ⟨_, (true), (by first | rfl | (simp; done) | (simp [*]; done)), H', ⟨by have := HJ7.out; first | omega | exact Nat.le_refl _⟩, ⟨by repeat (first | (with_reducible first | exact HB.out | apply below_alloc | apply pw_below_drewN | apply below_drew1) | exact HB.out)⟩⟩
                  · rw [if_neg c21] at H
                    exact absurd H (by simp)
              · rw [if_neg c18] at H
                exact absurd H (by simp)
            · rw [if_neg c17] at H
              exact absurd H (by simp)
          case rest =>
            clear HC16
            try clear c1
            try clear c2
            try clear p2
            try clear c6
            try clear c9
            try clear c11
            try clear c11b0
            try clear c11b1
            try clear c12
            try clear c12b0
            try clear c12b1
            try clear c13
            try clear c13b0
            try clear c14
            try clear c15
            try clear c15b0
            try clear c15b1
            try clear c17
            try clear c17b0
            try clear c17b1
            try clear c18
            try clear c18b0
            try clear c18b1
            try clear c20
            try clear c21
            try clear c21b0
            try clear c21b1
            try clear c21b2
            try clear c23
            try clear c23b0
            try clear c23b1
            try clear c23b2
            try clear c26
            try clear c26b0
            try clear c26b1
            try clear c28
            try clear c28b0
            try clear p2
            obtain ⟨kq, x71_15, rfl, HA, HJ15, HB⟩ := hcut
            cases kq with
            | zero => exact absurd HA.out (by simp [supercargolaw03_MarkCut.j1])
            | succ kj15 =>
              have H := HA.out
              clear HA
              simp only [supercargolaw03_MarkCut.j1] at H
              by_cases c30 : x71_15 = true
              · subst c30
                have H1 : (some false) = some r := by rw [if_pos rfl] at H; exact H
                clear H
                have H := H1
                clear H1
                obtain rfl := Option.some.inj H
                go_wp2
                go_ret
                exact ⟨by first | rfl | (simp [errW_none, errW_some] <;> rfl) | (simp [*, errW_none, errW_some] <;> rfl), by repeat (first | (with_reducible first | exact HB.out | apply below_alloc | apply pw_below_drewN | apply below_drew1) | exact HB.out)⟩
              · replace c30 := Bool.eq_false_iff.mpr c30
                subst c30
                have H1 : (if 0 ≤ a3 then (if a3 ≤ (t231.size : Int) then ((mark_Sum.f (t231.extract 0 (a3 : Int).toNat)).bind fun t239 => (if ((decide (t239 ≥ 0)) == (decide (a3 ≥ 10))) = true then ((mark_Mend.f (t231.extract 0 (a3 : Int).toNat)).bind fun t240 => (some ((t240.length : Int) == 0))) else (some false))) else (none)) else (none)) = some r := by rw [if_neg (show ¬ (false = true) by decide)] at H; exact H
                clear H
                have H := H1
                clear H1
                by_cases c31 : 0 ≤ a3
                · rw [if_pos c31] at H
                  have c31b0 := eq_true c31
                  have c31b1 : decide (0 ≤ a3) = true := decide_eq_true c31
                  clear c31
                  by_cases c32 : a3 ≤ (t231.size : Int)
                  · rw [if_pos c32] at H
                    have c32b0 := eq_true c32
                    have c32b1 : decide (a3 ≤ (t231.size : Int)) = true := decide_eq_true c32
                    clear c32
                    replace H := Option.bind_eq_some_iff.mp H
                    obtain ⟨t239, A330, H⟩ := H
                    replace H : (if ((decide (t239 ≥ 0)) == (decide (a3 ≥ 10))) = true then ((mark_Mend.f (t231.extract 0 (a3 : Int).toNat)).bind fun t240 => (some ((t240.length : Int) == 0))) else (some false)) = some r := H
                    have A33 := Aside0.mk A330
                    clear A330
                    by_cases c34 : ((decide (t239 ≥ 0)) == (decide (a3 ≥ 10))) = true
                    · rw [if_pos c34] at H
                      have c34b0 : ((decide (t239 ≥ 0)) == (decide (a3 ≥ 10))) = true := c34
                      (try (have c34b1 : decide ((decide (t239 ≥ 0)) = (decide (a3 ≥ 10))) = true := by simpa using c34))
                      (try (have c34b2 : ((decide (t239 ≥ 0)) == (decide (a3 ≥ 10))) = true := by simpa using c34))
                      clear c34
                      have c35b0 := eq_true (of_decide_eq_true (by first | (with_reducible assumption) | assumption) : 0 ≤ a3)
                      have c36b0 := eq_true (of_decide_eq_true (by first | (with_reducible assumption) | assumption) : a3 ≤ (t231.size : Int))
                      replace H := Option.bind_eq_some_iff.mp H
                      obtain ⟨t240, A370, H⟩ := H
                      replace H : (some ((t240.length : Int) == 0)) = some r := H
                      have A37 := Aside0.mk A370
                      clear A370
                      obtain rfl := Option.some.inj H
                      go_wp2_with (first | ((with_reducible refine gate_callee (f := 20) rfl ?_); refine goesL_ (some 75) rfl rfl Tryd.func20 (by kernel_rfl) rfl #[.string (t231.extract 0 (a3 : Int).toNat)] rfl (by (try simp only [List.map_toArray, List.map_cons, List.map_nil]); first | done | rfl | (simp only [List.length_drop, List.length_take]; rfl)) ?_; (with_reducible refine (mark_Sum.calls (t231.extract 0 (a3 : Int).toNat) t239 _ A33.out).mono ?_); rintro e w' ⟨rfl, ⟨nd, rfl⟩⟩; refine ⟨_, rfl, ?_⟩) | (go_at_call 23; (with_reducible refine (mark_Mend.calls (t231.extract 0 (a3 : Int).toNat) t240 _ A37.out).mono ?_); rintro e w38 ⟨v241, rfl, ho0, hb⟩; have n0_ := Aside0.mk (Kd.R_lower ho0 (below_size (by repeat (first | (with_reducible first | exact HB.out | apply below_alloc | apply pw_below_drewN | apply below_drew1) | exact HB.out)))); have n1_ := Aside0.mk (below_step (by repeat (first | (with_reducible first | exact HB.out | apply below_alloc | apply pw_below_drewN | apply below_drew1) | exact HB.out)) hb); clear HB; have HO242 := n0_; have HB := n1_; clear n0_ n1_; (try clear hb); (try clear hb2); (try clear hk); (try clear hi); (try clear ho0); obtain ⟨Ao39, co39, eo39⟩ := Kd.R_slice HO242.out; subst eo39))
                      go_ret
                      exact ⟨by first | rfl | (simp [errW_none, errW_some] <;> rfl) | (simp [*, errW_none, errW_some] <;> rfl), by repeat (first | (with_reducible first | exact HB.out | apply below_alloc | apply pw_below_drewN | apply below_drew1) | exact HB.out)⟩
                    · rw [if_neg c34] at H
                      have c34b0 : ((decide (t239 ≥ 0)) == (decide (a3 ≥ 10))) = false := by simpa using c34
                      (try (have c34b1 : decide ((decide (t239 ≥ 0)) = (decide (a3 ≥ 10))) = false := by simpa using c34))
                      (try (have c34b2 : ((decide (t239 ≥ 0)) == (decide (a3 ≥ 10))) = false := by simpa using c34))
                      (try (have c34b3 : ¬ ((decide (t239 ≥ 0)) = (decide (a3 ≥ 10))) := by simpa using c34))
                      clear c34
                      obtain rfl := Option.some.inj H
                      go_wp2_with (first | ((with_reducible refine gate_callee (f := 20) rfl ?_); refine goesL_ (some 75) rfl rfl Tryd.func20 (by kernel_rfl) rfl #[.string (t231.extract 0 (a3 : Int).toNat)] rfl (by (try simp only [List.map_toArray, List.map_cons, List.map_nil]); first | done | rfl | (simp only [List.length_drop, List.length_take]; rfl)) ?_; (with_reducible refine (mark_Sum.calls (t231.extract 0 (a3 : Int).toNat) t239 _ A33.out).mono ?_); rintro e w' ⟨rfl, ⟨nd, rfl⟩⟩; refine ⟨_, rfl, ?_⟩))
                      go_ret
                      exact ⟨by first | rfl | (simp [errW_none, errW_some] <;> rfl) | (simp [*, errW_none, errW_some] <;> rfl), by repeat (first | (with_reducible first | exact HB.out | apply below_alloc | apply pw_below_drewN | apply below_drew1) | exact HB.out)⟩
                  · rw [if_neg c32] at H
                    exact absurd H (by simp)
                · rw [if_neg c31] at H
                  exact absurd H (by simp)
  · replace c6 := Bool.eq_false_iff.mpr c6
    subst c6
    have H1 : (some false) = some r := by rw [if_neg (show ¬ (false = true) by decide)] at H; exact H
    clear H
    have H := H1
    clear H1
    obtain rfl := Option.some.inj H
    go_enter Tryd.func9, Tryd.ntmps9
    go_wp2_with (first | ((with_reducible refine gate_callee (f := 11) rfl ?_); refine goesL_ (some 11) rfl rfl Tryd.func11 (by kernel_rfl) rfl #[] rfl (by (try simp only [List.map_toArray, List.map_cons, List.map_nil]); first | done | rfl | (simp only [List.length_drop, List.length_take]; rfl)) ?_; (with_reducible refine (supercargolaw03_awake.calls  false _ A5.out (TB.below HT (by repeat (first | (with_reducible first | exact HB.out | apply below_alloc | apply pw_below_drewN | apply below_drew1) | exact HB.out)))).mono ?_); rintro e w40 ⟨rfl, hb⟩; refine ⟨_, rfl, ?_⟩; have n0_ := Aside0.mk (below_step (by repeat (first | (with_reducible first | exact HB.out | apply below_alloc | apply pw_below_drewN | apply below_drew1) | exact HB.out)) hb); clear HB; have HB := n0_; clear n0_; (try clear hb); (try clear hb2); (try clear hk); (try clear hi)))
    go_ret
    exact ⟨by first | rfl | (simp [errW_none, errW_some] <;> rfl) | (simp [*, errW_none, errW_some] <;> rfl), by repeat (first | (with_reducible first | exact HB.out | apply below_alloc | apply pw_below_drewN | apply below_drew1) | exact HB.out)⟩

end Go.Proofs.YtkfcllapmkeihaaDoor.X
