-- Written by wip/xprint.py (this session) over the kit's print.py
import Derived.Test.YtkfcllapmkeihaaDoorXx0
import Derived.Test.YtkfcllapmkeihaaDoorXx1
import Derived.Test.YtkfcllapmkeihaaDoorXx4
namespace Go.Proofs.YtkfcllapmkeihaaDoor.X
open Go.RowKit Go.Proofs.YtkfcllapmkeihaaDoor.Ext Go.Proofs.YtkfcllapmkeihaaDoorW.PrintWords Go.Proofs.YtkfcllapmkeihaaDoorW.PrintLast Go.Proofs.YtkfcllapmkeihaaDoorW.PrintMore
attribute [local go_sem] max2_int min2_int max_two min_two max_three min_three max_four min_four   -- for this text's walks alone
set_option linter.unusedVariables false
set_option linter.unusedSimpArgs false

/-! ### supercargolaw03_MarkJoins: function 7 -/
mutual
def supercargolaw03_MarkJoins.j0 : Nat → ByteArray → ByteArray → Int → Bool → Option (Bool)
  | 0, _, _, _, _ => none
  | k + 1, x0, x1, x2, x27 => if x27 = true then (some true) else ((mark_Name.f x0).bind fun t162 => (if t162 = true then ((mark_Name.f x1).bind fun t163 => (supercargolaw03_MarkJoins.j1 k x0 x1 x2 t163)) else (supercargolaw03_MarkJoins.j1 k x0 x1 x2 false)))
def supercargolaw03_MarkJoins.j1 : Nat → ByteArray → ByteArray → Int → Bool → Option (Bool)
  | 0, _, _, _, _ => none
  | k + 1, x0, x1, x2, x7 => if x7 = true then (if x0.size + x1.size ≤ 9223372036854775807 then ((mark_Name.f (x0 ++ x1)).bind fun t164 => (if (t164 != (decide (((x0.size : Int) + (x1.size : Int)) ≤ 16))) = true then (supercargolaw03_MarkJoins.j2 k x0 x2 true) else (if x0.toList = ([] : List UInt8) then (supercargolaw03_MarkJoins.j2 k x0 x2 false) else (if x1.toList = ([] : List UInt8) then (supercargolaw03_MarkJoins.j2 k x0 x2 false) else (supercargolaw03_MarkJoins.j2 k x0 x2 false))))) else (none)) else (if x0.toList = ([] : List UInt8) then (supercargolaw03_MarkJoins.j2 k x0 x2 false) else (if x1.toList = ([] : List UInt8) then (supercargolaw03_MarkJoins.j2 k x0 x2 false) else (if x0.size + x1.size ≤ 9223372036854775807 then ((mark_Name.f (x0 ++ x1)).bind fun t165 => (if t165 = true then (supercargolaw03_MarkJoins.j2 k x0 x2 (decide (((x0.size : Int) + (x1.size : Int)) > 16))) else (supercargolaw03_MarkJoins.j2 k x0 x2 false))) else (none))))
def supercargolaw03_MarkJoins.j2 : Nat → ByteArray → Int → Bool → Option (Bool)
  | 0, _, _, _ => none
  | k + 1, x0, x2, x73 => if x73 = true then (some false) else ((mark_Name.f x0).bind fun t166 => (if t166 = true then (if 0 ≤ x2 then (if x2 ≤ (x0.size : Int) then ((mark_Name.f (x0.extract 0 (x2 : Int).toNat)).bind fun t167 => (if (t167 != (decide (x2 > 0))) = true then (supercargolaw03_MarkJoins.j3 k x0 true) else ((mark_Name.f (x0.extract (x2 : Int).toNat x0.size)).bind fun t168 => (supercargolaw03_MarkJoins.j3 k x0 (t168 != (decide (x2 < (x0.size : Int)))))))) else (none)) else (none)) else (supercargolaw03_MarkJoins.j3 k x0 false)))
def supercargolaw03_MarkJoins.j3 : Nat → ByteArray → Bool → Option (Bool)
  | 0, _, _ => none
  | k + 1, x0, x95 => if x95 = true then (some false) else ((mark_Right.f x0).bind fun t169 => (if t169 = true then ((mark_Owner.f x0).bind fun t170 => ((mark_Name.f t170).bind fun t171 => (if t171 = true then (if 4 ≤ 10 then (if 10 ≤ (x0.size : Int) then ((mark_Name.f (x0.extract 4 10)).bind fun t172 => (if t172 = true then ((mark_Number.f k x0).bind fun t173 => (some (decide (t173 ≥ 0)))) else (some false))) else (none)) else (none)) else (some false)))) else (some true)))
end
def supercargolaw03_MarkJoins.f (k : Nat) (a0 : ByteArray) (a1 : ByteArray) (a2 : Int) : Option (Bool) := (supercargolaw03_awake.f).bind fun t161 => (if t161 = true then (if (a0.size : Int) > 40 then (supercargolaw03_MarkJoins.j0 k a0 a1 a2 true) else (if (a1.size : Int) > 40 then (supercargolaw03_MarkJoins.j0 k a0 a1 a2 true) else (if a2 < 0 then (supercargolaw03_MarkJoins.j0 k a0 a1 a2 true) else (supercargolaw03_MarkJoins.j0 k a0 a1 a2 (decide (a2 > (a0.size : Int))))))) else (some false))
theorem supercargolaw03_MarkJoins.mono_l : ∀ k, (∀ y0 y1 y2 y3, LeO (supercargolaw03_MarkJoins.j0 k y0 y1 y2 y3) (supercargolaw03_MarkJoins.j0 (k + 1) y0 y1 y2 y3)) ∧ (∀ y0 y1 y2 y3, LeO (supercargolaw03_MarkJoins.j1 k y0 y1 y2 y3) (supercargolaw03_MarkJoins.j1 (k + 1) y0 y1 y2 y3)) ∧ (∀ y0 y1 y2, LeO (supercargolaw03_MarkJoins.j2 k y0 y1 y2) (supercargolaw03_MarkJoins.j2 (k + 1) y0 y1 y2)) ∧ (∀ y0 y1, LeO (supercargolaw03_MarkJoins.j3 k y0 y1) (supercargolaw03_MarkJoins.j3 (k + 1) y0 y1))
  | 0 => ⟨fun _ _ _ _ r h => by simp [supercargolaw03_MarkJoins.j0] at h, fun _ _ _ _ r h => by simp [supercargolaw03_MarkJoins.j1] at h, fun _ _ _ r h => by simp [supercargolaw03_MarkJoins.j2] at h, fun _ _ r h => by simp [supercargolaw03_MarkJoins.j3] at h⟩
  | k + 1 => by
    obtain ⟨ih0, ih1, ih2, ih3⟩ := supercargolaw03_MarkJoins.mono_l k
    refine ⟨?_, ?_, ?_, ?_⟩
    · intro y0 y1 y2 y3
      unfold supercargolaw03_MarkJoins.j0
      repeat' first
      | (with_reducible exact ih0 _ _ _ _)
      | (with_reducible exact ih1 _ _ _ _)
      | (with_reducible exact ih2 _ _ _)
      | (with_reducible exact ih3 _ _)
      | (with_reducible exact mark_Number.mono _ _)
      | (with_reducible exact LeO.refl _)
      | (with_reducible exact LeO.none _)
      | (with_reducible refine LeO.ite ?_ ?_)
      | (with_reducible refine LeO.bind ?_ (fun _ => ?_))
      | exact ih0 _ _ _ _
      | exact ih1 _ _ _ _
      | exact ih2 _ _ _
      | exact ih3 _ _
      | exact mark_Number.mono _ _
      | exact LeO.none _
      | refine LeO.ite ?_ ?_
      | refine LeO.bind ?_ (fun _ => ?_)
    · intro y0 y1 y2 y3
      unfold supercargolaw03_MarkJoins.j1
      repeat' first
      | (with_reducible exact ih0 _ _ _ _)
      | (with_reducible exact ih1 _ _ _ _)
      | (with_reducible exact ih2 _ _ _)
      | (with_reducible exact ih3 _ _)
      | (with_reducible exact mark_Number.mono _ _)
      | (with_reducible exact LeO.refl _)
      | (with_reducible exact LeO.none _)
      | (with_reducible refine LeO.ite ?_ ?_)
      | (with_reducible refine LeO.bind ?_ (fun _ => ?_))
      | exact ih0 _ _ _ _
      | exact ih1 _ _ _ _
      | exact ih2 _ _ _
      | exact ih3 _ _
      | exact mark_Number.mono _ _
      | exact LeO.none _
      | refine LeO.ite ?_ ?_
      | refine LeO.bind ?_ (fun _ => ?_)
    · intro y0 y1 y2
      unfold supercargolaw03_MarkJoins.j2
      repeat' first
      | (with_reducible exact ih0 _ _ _ _)
      | (with_reducible exact ih1 _ _ _ _)
      | (with_reducible exact ih2 _ _ _)
      | (with_reducible exact ih3 _ _)
      | (with_reducible exact mark_Number.mono _ _)
      | (with_reducible exact LeO.refl _)
      | (with_reducible exact LeO.none _)
      | (with_reducible refine LeO.ite ?_ ?_)
      | (with_reducible refine LeO.bind ?_ (fun _ => ?_))
      | exact ih0 _ _ _ _
      | exact ih1 _ _ _ _
      | exact ih2 _ _ _
      | exact ih3 _ _
      | exact mark_Number.mono _ _
      | exact LeO.none _
      | refine LeO.ite ?_ ?_
      | refine LeO.bind ?_ (fun _ => ?_)
    · intro y0 y1
      unfold supercargolaw03_MarkJoins.j3
      repeat' first
      | (with_reducible exact ih0 _ _ _ _)
      | (with_reducible exact ih1 _ _ _ _)
      | (with_reducible exact ih2 _ _ _)
      | (with_reducible exact ih3 _ _)
      | (with_reducible exact mark_Number.mono _ _)
      | (with_reducible exact LeO.refl _)
      | (with_reducible exact LeO.none _)
      | (with_reducible refine LeO.ite ?_ ?_)
      | (with_reducible refine LeO.bind ?_ (fun _ => ?_))
      | exact ih0 _ _ _ _
      | exact ih1 _ _ _ _
      | exact ih2 _ _ _
      | exact ih3 _ _
      | exact mark_Number.mono _ _
      | exact LeO.none _
      | refine LeO.ite ?_ ?_
      | refine LeO.bind ?_ (fun _ => ?_)
theorem supercargolaw03_MarkJoins.mono : ∀ a0 a1 a2 k, LeO (supercargolaw03_MarkJoins.f k a0 a1 a2) (supercargolaw03_MarkJoins.f (k + 1) a0 a1 a2) := by
  intro a0 a1 a2 k
  obtain ⟨ih0, ih1, ih2, ih3⟩ := supercargolaw03_MarkJoins.mono_l k
  unfold supercargolaw03_MarkJoins.f
  repeat' first
      | (with_reducible exact ih0 _ _ _ _)
      | (with_reducible exact ih1 _ _ _ _)
      | (with_reducible exact ih2 _ _ _)
      | (with_reducible exact ih3 _ _)
      | (with_reducible exact mark_Number.mono _ _)
      | (with_reducible exact LeO.refl _)
      | (with_reducible exact LeO.none _)
      | (with_reducible refine LeO.ite ?_ ?_)
      | (with_reducible refine LeO.bind ?_ (fun _ => ?_))
      | exact ih0 _ _ _ _
      | exact ih1 _ _ _ _
      | exact ih2 _ _ _
      | exact ih3 _ _
      | exact mark_Number.mono _ _
      | exact LeO.none _
      | refine LeO.ite ?_ ?_
      | refine LeO.bind ?_ (fun _ => ?_)
set_option maxHeartbeats 8000000 in
set_option maxRecDepth 100000 in
theorem supercargolaw03_MarkJoins.calls (k : Nat) (a0 : ByteArray) (a1 : ByteArray) (a2 : Int) (r : Bool) (w : World) (h : supercargolaw03_MarkJoins.f k a0 a1 a2 = some r) (HT : TB w) :
    Calls Tryd.prog 7 #[.string a0, .string a1, .int .i64 a2] w fun e w' => e = .returned (.bool r) ∧ Below w.heap.size w w' := by
  have HB := Aside0.mk (Below.refl w.heap.size w)
  have H : ((supercargolaw03_awake.f).bind fun t161 => (if t161 = true then (if (a0.size : Int) > 40 then (supercargolaw03_MarkJoins.j0 k a0 a1 a2 true) else (if (a1.size : Int) > 40 then (supercargolaw03_MarkJoins.j0 k a0 a1 a2 true) else (if a2 < 0 then (supercargolaw03_MarkJoins.j0 k a0 a1 a2 true) else (supercargolaw03_MarkJoins.j0 k a0 a1 a2 (decide (a2 > (a0.size : Int))))))) else (some false))) = some r := h
  clear h
  replace H := Option.bind_eq_some_iff.mp H
  obtain ⟨t161, A40, H⟩ := H
  replace H : (if t161 = true then (if (a0.size : Int) > 40 then (supercargolaw03_MarkJoins.j0 k a0 a1 a2 true) else (if (a1.size : Int) > 40 then (supercargolaw03_MarkJoins.j0 k a0 a1 a2 true) else (if a2 < 0 then (supercargolaw03_MarkJoins.j0 k a0 a1 a2 true) else (supercargolaw03_MarkJoins.j0 k a0 a1 a2 (decide (a2 > (a0.size : Int))))))) else (some false)) = some r := H
  have A4 := Aside0.mk A40
  clear A40
  by_cases c5 : t161 = true
  · subst c5
    have H1 : (if (a0.size : Int) > 40 then (supercargolaw03_MarkJoins.j0 k a0 a1 a2 true) else (if (a1.size : Int) > 40 then (supercargolaw03_MarkJoins.j0 k a0 a1 a2 true) else (if a2 < 0 then (supercargolaw03_MarkJoins.j0 k a0 a1 a2 true) else (supercargolaw03_MarkJoins.j0 k a0 a1 a2 (decide (a2 > (a0.size : Int))))))) = some r := by rw [if_pos rfl] at H; exact H
    clear H
    have H := H1
    clear H1
    have HC6 := Aside0.mk H
    clear H
    go_enter Tryd.func7, Tryd.ntmps7
    go_upto_region 3 with (first | ((with_reducible refine gate_callee (f := 11) rfl ?_); refine goesL_ (some 8) rfl rfl Tryd.func11 (by kernel_rfl) rfl #[] rfl (by (try simp only [List.map_toArray, List.map_cons, List.map_nil]); first | done | rfl | (simp only [List.length_drop, List.length_take]; rfl)) ?_; (with_reducible refine (supercargolaw03_awake.calls  true _ A4.out (TB.below HT (by repeat (first | (with_reducible first | exact HB.out | apply below_alloc | apply pw_below_drewN | apply below_drew1) | exact HB.out)))).mono ?_); rintro e w7 ⟨rfl, hb⟩; refine ⟨_, rfl, ?_⟩; have n0_ := Aside0.mk (below_step (by repeat (first | (with_reducible first | exact HB.out | apply below_alloc | apply pw_below_drewN | apply below_drew1) | exact HB.out)) hb); clear HB; have HB := n0_; clear n0_; (try clear hb); (try clear hb2); (try clear hk); (try clear hi)))
    (try simp only [Act.put, List.setIfInBounds_toArray, List.set_cons_zero, List.set_cons_succ])
    go_cut [27] (fun v27 wc => ∃ (kq : Nat) (x27_5 : Bool), v27 = .bool x27_5 ∧ Aside0 (supercargolaw03_MarkJoins.j0 kq a0 a1 a2 x27_5 = some r) ∧ Aside0 (kq ≤ k) ∧ Aside0 (Below w.heap.size w wc))
    case first =>
      have H := HC6.out
      clear HC6
      by_cases c8 : (a0.size : Int) > 40
      · rw [if_pos c8] at H
        have c8b0 : decide (40 < (a0.size : Int)) = true := decide_eq_true c8
        have c8b1 : decide (40 < a0.size) = true := decide_eq_true (by omega)
        clear c8
        (first | rw [c8b0] | (simp only [i64_w, i32_w]; rw [c8b0]) | skip)
        have H' := Aside0.mk H
        clear H
        go_wp2
        go_meet
        case rel => exact ⟨_, (true), (by first | rfl | (simp; done) | (simp [*]; done)), H', ⟨by first | omega | exact Nat.le_refl _⟩, ⟨by repeat (first | (with_reducible first | exact HB.out | apply below_alloc | apply pw_below_drewN | apply below_drew1) | exact HB.out)⟩⟩
      · rw [if_neg c8] at H
        have c8b0 : decide (40 < (a0.size : Int)) = false := decide_eq_false c8
        have c8b1 : decide (40 < a0.size) = false := decide_eq_false (by omega)
        clear c8
        (first | rw [c8b0] | (simp only [i64_w, i32_w]; rw [c8b0]) | skip)
        by_cases c9 : (a1.size : Int) > 40
        · rw [if_pos c9] at H
          have c9b0 : decide (40 < (a1.size : Int)) = true := decide_eq_true c9
          have c9b1 : decide (40 < a1.size) = true := decide_eq_true (by omega)
          clear c9
          have H' := Aside0.mk H
          clear H
          go_wp2
          go_meet
          case rel => exact ⟨_, (true), (by first | rfl | (simp; done) | (simp [*]; done)), H', ⟨by first | omega | exact Nat.le_refl _⟩, ⟨by repeat (first | (with_reducible first | exact HB.out | apply below_alloc | apply pw_below_drewN | apply below_drew1) | exact HB.out)⟩⟩
        · rw [if_neg c9] at H
          have c9b0 : decide (40 < (a1.size : Int)) = false := decide_eq_false c9
          have c9b1 : decide (40 < a1.size) = false := decide_eq_false (by omega)
          clear c9
          by_cases c10 : a2 < 0
          · rw [if_pos c10] at H
            have c10b0 : decide (a2 < 0) = true := decide_eq_true c10
            clear c10
            have H' := Aside0.mk H
            clear H
            go_wp2
            go_meet
            case rel => exact ⟨_, (true), (by first | rfl | (simp; done) | (simp [*]; done)), H', ⟨by first | omega | exact Nat.le_refl _⟩, ⟨by repeat (first | (with_reducible first | exact HB.out | apply below_alloc | apply pw_below_drewN | apply below_drew1) | exact HB.out)⟩⟩
          · rw [if_neg c10] at H
            have c10b0 : decide (a2 < 0) = false := decide_eq_false c10
            clear c10
            have H' := Aside0.mk H
            clear H
            go_wp2
            go_meet
            case rel => exact ⟨_, (decide (a2 > (a0.size : Int))), (by first | rfl | (simp; done) | (simp [*]; done)), H', ⟨by first | omega | exact Nat.le_refl _⟩, ⟨by repeat (first | (with_reducible first | exact HB.out | apply below_alloc | apply pw_below_drewN | apply below_drew1) | exact HB.out)⟩⟩
    case rest =>
      clear HC6
      try clear c1
      try clear p2
      try clear c5
      try clear c7
      try clear c8
      try clear c8b0
      try clear c8b1
      try clear c9
      try clear c9b0
      try clear c9b1
      try clear c10
      try clear c10b0
      obtain ⟨kq, x27_5, rfl, HA, HJ5, HB⟩ := hcut
      cases kq with
      | zero => exact absurd HA.out (by simp [supercargolaw03_MarkJoins.j0])
      | succ kj5 =>
        have H := HA.out
        clear HA
        simp only [supercargolaw03_MarkJoins.j0] at H
        by_cases c11 : x27_5 = true
        · subst c11
          have H1 : (some true) = some r := by rw [if_pos rfl] at H; exact H
          clear H
          have H := H1
          clear H1
          obtain rfl := Option.some.inj H
          go_wp2
          go_ret
          exact ⟨by first | rfl | (simp [errW_none, errW_some] <;> rfl) | (simp [*, errW_none, errW_some] <;> rfl), by repeat (first | (with_reducible first | exact HB.out | apply below_alloc | apply pw_below_drewN | apply below_drew1) | exact HB.out)⟩
        · replace c11 := Bool.eq_false_iff.mpr c11
          subst c11
          have H1 : ((mark_Name.f a0).bind fun t162 => (if t162 = true then ((mark_Name.f a1).bind fun t163 => (supercargolaw03_MarkJoins.j1 kj5 a0 a1 a2 t163)) else (supercargolaw03_MarkJoins.j1 kj5 a0 a1 a2 false))) = some r := by rw [if_neg (show ¬ (false = true) by decide)] at H; exact H
          clear H
          have H := H1
          clear H1
          have HC12 := Aside0.mk H
          clear H
          go_upto_region 5 with (fail)
          go_cut [7] (fun v7 wc => ∃ (kq : Nat) (x7_11 : Bool), v7 = .bool x7_11 ∧ Aside0 (supercargolaw03_MarkJoins.j1 kq a0 a1 a2 x7_11 = some r) ∧ Aside0 (kq ≤ kj5) ∧ Aside0 (Below w.heap.size w wc))
          case first =>
            have H := HC12.out
            clear HC12
            replace H := Option.bind_eq_some_iff.mp H
            obtain ⟨t162, A130, H⟩ := H
            replace H : (if t162 = true then ((mark_Name.f a1).bind fun t163 => (supercargolaw03_MarkJoins.j1 kj5 a0 a1 a2 t163)) else (supercargolaw03_MarkJoins.j1 kj5 a0 a1 a2 false)) = some r := H
            have A13 := Aside0.mk A130
            clear A130
            by_cases c14 : t162 = true
            · subst c14
              have H1 : ((mark_Name.f a1).bind fun t163 => (supercargolaw03_MarkJoins.j1 kj5 a0 a1 a2 t163)) = some r := by rw [if_pos rfl] at H; exact H
              clear H
              have H := H1
              clear H1
              replace H := Option.bind_eq_some_iff.mp H
              obtain ⟨t163, A150, H⟩ := H
              replace H : (supercargolaw03_MarkJoins.j1 kj5 a0 a1 a2 t163) = some r := H
              have A15 := Aside0.mk A150
              clear A150
              have H' := Aside0.mk H
              clear H
              go_wp2_with (first | ((with_reducible refine gate_callee (f := 18) rfl ?_); refine goesL_ (some 29) rfl rfl Tryd.func18 (by kernel_rfl) rfl #[.string a0] rfl (by (try simp only [List.map_toArray, List.map_cons, List.map_nil]); first | done | rfl | (simp only [List.length_drop, List.length_take]; rfl)) ?_; (with_reducible refine (mark_Name.calls a0 true _ A13.out).mono ?_); rintro e w' ⟨rfl, ⟨nd, rfl⟩⟩; refine ⟨_, rfl, ?_⟩) | (go_at_call 18; (with_reducible refine (mark_Name.calls a1 t163 _ A15.out).mono ?_); rintro e w' ⟨rfl, ⟨nd, rfl⟩⟩))
              go_meet
              case rel => exact ⟨_, (t163), (by first | rfl | (simp; done) | (simp [*]; done)), H', ⟨by have := HJ5.out; first | omega | exact Nat.le_refl _⟩, ⟨by repeat (first | (with_reducible first | exact HB.out | apply below_alloc | apply pw_below_drewN | apply below_drew1) | exact HB.out)⟩⟩
            · replace c14 := Bool.eq_false_iff.mpr c14
              subst c14
              have H1 : (supercargolaw03_MarkJoins.j1 kj5 a0 a1 a2 false) = some r := by rw [if_neg (show ¬ (false = true) by decide)] at H; exact H
              clear H
              have H := H1
              clear H1
              have H' := Aside0.mk H
              clear H
              go_wp2_with (first | ((with_reducible refine gate_callee (f := 18) rfl ?_); refine goesL_ (some 29) rfl rfl Tryd.func18 (by kernel_rfl) rfl #[.string a0] rfl (by (try simp only [List.map_toArray, List.map_cons, List.map_nil]); first | done | rfl | (simp only [List.length_drop, List.length_take]; rfl)) ?_; (with_reducible refine (mark_Name.calls a0 false _ A13.out).mono ?_); rintro e w' ⟨rfl, ⟨nd, rfl⟩⟩; refine ⟨_, rfl, ?_⟩))
              go_meet
              case rel => exact ⟨_, (false), (by first | rfl | (simp; done) | (simp [*]; done)), H', ⟨by have := HJ5.out; first | omega | exact Nat.le_refl _⟩, ⟨by repeat (first | (with_reducible first | exact HB.out | apply below_alloc | apply pw_below_drewN | apply below_drew1) | exact HB.out)⟩⟩
          case rest =>
            clear HC12
            try clear c1
            try clear p2
            try clear c5
            try clear c7
            try clear c8
            try clear c8b0
            try clear c8b1
            try clear c9
            try clear c9b0
            try clear c9b1
            try clear c10
            try clear c10b0
            try clear c11
            try clear c14
            try clear p2
            obtain ⟨kq, x7_11, rfl, HA, HJ11, HB⟩ := hcut
            cases kq with
            | zero => exact absurd HA.out (by simp [supercargolaw03_MarkJoins.j1])
            | succ kj11 =>
              have H := HA.out
              clear HA
              simp only [supercargolaw03_MarkJoins.j1] at H
              have HC16 := Aside0.mk H
              clear H
              go_upto_region 6 with (fail)
              go_cut [73] (fun v73 wc => ∃ (kq : Nat) (x73_15 : Bool), v73 = .bool x73_15 ∧ Aside0 (supercargolaw03_MarkJoins.j2 kq a0 a2 x73_15 = some r) ∧ Aside0 (kq ≤ kj11) ∧ Aside0 (Below w.heap.size w wc))
              case first =>
                have H := HC16.out
                clear HC16
                by_cases c17 : x7_11 = true
                · subst c17
                  have H1 : (if a0.size + a1.size ≤ 9223372036854775807 then ((mark_Name.f (a0 ++ a1)).bind fun t164 => (if (t164 != (decide (((a0.size : Int) + (a1.size : Int)) ≤ 16))) = true then (supercargolaw03_MarkJoins.j2 kj11 a0 a2 true) else (if a0.toList = ([] : List UInt8) then (supercargolaw03_MarkJoins.j2 kj11 a0 a2 false) else (if a1.toList = ([] : List UInt8) then (supercargolaw03_MarkJoins.j2 kj11 a0 a2 false) else (supercargolaw03_MarkJoins.j2 kj11 a0 a2 false))))) else (none)) = some r := by rw [if_pos rfl] at H; exact H
                  clear H
                  have H := H1
                  clear H1
                  by_cases c18 : a0.size + a1.size ≤ 9223372036854775807
                  · rw [if_pos c18] at H
                    have c18b0 := eq_true c18
                    have c18b1 : decide (a0.size + a1.size ≤ 9223372036854775807) = true := decide_eq_true c18
                    try have c18b2 : (9223372036854775807 < a0.size + a1.size) = False := eq_false (Nat.not_lt.2 c18)
                    replace H := Option.bind_eq_some_iff.mp H
                    obtain ⟨t164, A190, H⟩ := H
                    replace H : (if (t164 != (decide (((a0.size : Int) + (a1.size : Int)) ≤ 16))) = true then (supercargolaw03_MarkJoins.j2 kj11 a0 a2 true) else (if a0.toList = ([] : List UInt8) then (supercargolaw03_MarkJoins.j2 kj11 a0 a2 false) else (if a1.toList = ([] : List UInt8) then (supercargolaw03_MarkJoins.j2 kj11 a0 a2 false) else (supercargolaw03_MarkJoins.j2 kj11 a0 a2 false)))) = some r := H
                    have A19 := Aside0.mk A190
                    clear A190
                    by_cases c20 : (t164 != (decide (((a0.size : Int) + (a1.size : Int)) ≤ 16))) = true
                    · rw [if_pos c20] at H
                      have c20b0 : (t164 != (decide (((a0.size : Int) + (a1.size : Int)) ≤ 16))) = true := c20
                      (try (have c20b1 : decide (t164 = (decide (((a0.size : Int) + (a1.size : Int)) ≤ 16))) = false := by simpa using c20))
                      (try (have c20b2 : (t164 == (decide (((a0.size : Int) + (a1.size : Int)) ≤ 16))) = false := by simpa using c20))
                      (try (have c20b3 : ¬ (t164 = (decide (((a0.size : Int) + (a1.size : Int)) ≤ 16))) := by simpa using c20))
                      clear c20
                      (first | rw [c20b0] | (simp only [i64_w, i32_w]; rw [c20b0]) | skip)
                      have H' := Aside0.mk H
                      clear H
                      go_wp2_with (first | (go_at_call 18; (with_reducible refine (mark_Name.calls (a0 ++ a1) t164 _ A19.out).mono ?_); rintro e w' ⟨rfl, ⟨nd, rfl⟩⟩))
                      go_meet
                      case rel => exact ⟨_, (true), (by first | rfl | (simp; done) | (simp [*]; done)), H', ⟨by have := HJ5.out; have := HJ11.out; first | omega | exact Nat.le_refl _⟩, ⟨by repeat (first | (with_reducible first | exact HB.out | apply below_alloc | apply pw_below_drewN | apply below_drew1) | exact HB.out)⟩⟩
                    · rw [if_neg c20] at H
                      have c20b0 : (t164 != (decide (((a0.size : Int) + (a1.size : Int)) ≤ 16))) = false := by simpa using c20
                      (try (have c20b1 : decide (t164 = (decide (((a0.size : Int) + (a1.size : Int)) ≤ 16))) = true := by simpa using c20))
                      (try (have c20b2 : (t164 == (decide (((a0.size : Int) + (a1.size : Int)) ≤ 16))) = true := by simpa using c20))
                      clear c20
                      (first | rw [c20b0] | (simp only [i64_w, i32_w]; rw [c20b0]) | skip)
                      by_cases c21 : a0.toList = ([] : List UInt8)
                      · rw [if_pos c21] at H
                        have c21b0 : (a0.toList == ([] : List UInt8)) = true := beq_iff_eq.mpr c21
                        have c21b1 : (a0.toList != ([] : List UInt8)) = false := bne_eq_false_iff_eq.mpr c21
                        clear c21
                        have H' := Aside0.mk H
                        clear H
                        go_wp2_with (first | (go_at_call 18; (with_reducible refine (mark_Name.calls (a0 ++ a1) t164 _ A19.out).mono ?_); rintro e w' ⟨rfl, ⟨nd, rfl⟩⟩))
                        go_meet
                        case rel => exact ⟨_, (false), (by first | rfl | (simp; done) | (simp [*]; done)), H', ⟨by have := HJ5.out; have := HJ11.out; first | omega | exact Nat.le_refl _⟩, ⟨by repeat (first | (with_reducible first | exact HB.out | apply below_alloc | apply pw_below_drewN | apply below_drew1) | exact HB.out)⟩⟩
                      · rw [if_neg c21] at H
                        have c21b0 : (a0.toList == ([] : List UInt8)) = false := beq_eq_false_iff_ne.mpr c21
                        have c21b1 : (a0.toList != ([] : List UInt8)) = true := bne_iff_ne.mpr c21
                        by_cases c22 : a1.toList = ([] : List UInt8)
                        · rw [if_pos c22] at H
                          have c22b0 : (a1.toList == ([] : List UInt8)) = true := beq_iff_eq.mpr c22
                          have c22b1 : (a1.toList != ([] : List UInt8)) = false := bne_eq_false_iff_eq.mpr c22
                          clear c22
                          have H' := Aside0.mk H
                          clear H
                          go_wp2_with (first | (go_at_call 18; (with_reducible refine (mark_Name.calls (a0 ++ a1) t164 _ A19.out).mono ?_); rintro e w' ⟨rfl, ⟨nd, rfl⟩⟩))
                          go_meet
                          case rel => exact ⟨_, (false), (by first | rfl | (simp; done) | (simp [*]; done)), H', ⟨by have := HJ5.out; have := HJ11.out; first | omega | exact Nat.le_refl _⟩, ⟨by repeat (first | (with_reducible first | exact HB.out | apply below_alloc | apply pw_below_drewN | apply below_drew1) | exact HB.out)⟩⟩
                        · rw [if_neg c22] at H
                          have c22b0 : (a1.toList == ([] : List UInt8)) = false := beq_eq_false_iff_ne.mpr c22
                          have c22b1 : (a1.toList != ([] : List UInt8)) = true := bne_iff_ne.mpr c22
                          have H' := Aside0.mk H
                          clear H
                          go_wp2_with (first | (go_at_call 18; (with_reducible refine (mark_Name.calls (a0 ++ a1) t164 _ A19.out).mono ?_); rintro e w' ⟨rfl, ⟨nd, rfl⟩⟩))
                          go_meet
                          case rel => exact ⟨_, (false), (by first | rfl | (simp; done) | (simp [*]; done)), H', ⟨by have := HJ5.out; have := HJ11.out; first | omega | exact Nat.le_refl _⟩, ⟨by repeat (first | (with_reducible first | exact HB.out | apply below_alloc | apply pw_below_drewN | apply below_drew1) | exact HB.out)⟩⟩
                  · rw [if_neg c18] at H
                    exact absurd H (by simp)
                · replace c17 := Bool.eq_false_iff.mpr c17
                  subst c17
                  have H1 : (if a0.toList = ([] : List UInt8) then (supercargolaw03_MarkJoins.j2 kj11 a0 a2 false) else (if a1.toList = ([] : List UInt8) then (supercargolaw03_MarkJoins.j2 kj11 a0 a2 false) else (if a0.size + a1.size ≤ 9223372036854775807 then ((mark_Name.f (a0 ++ a1)).bind fun t165 => (if t165 = true then (supercargolaw03_MarkJoins.j2 kj11 a0 a2 (decide (((a0.size : Int) + (a1.size : Int)) > 16))) else (supercargolaw03_MarkJoins.j2 kj11 a0 a2 false))) else (none)))) = some r := by rw [if_neg (show ¬ (false = true) by decide)] at H; exact H
                  clear H
                  have H := H1
                  clear H1
                  by_cases c23 : a0.toList = ([] : List UInt8)
                  · rw [if_pos c23] at H
                    have c23b0 : (a0.toList == ([] : List UInt8)) = true := beq_iff_eq.mpr c23
                    have c23b1 : (a0.toList != ([] : List UInt8)) = false := bne_eq_false_iff_eq.mpr c23
                    clear c23
                    have H' := Aside0.mk H
                    clear H
                    go_wp2
                    go_meet
                    case rel => exact ⟨_, (false), (by first | rfl | (simp; done) | (simp [*]; done)), H', ⟨by have := HJ5.out; have := HJ11.out; first | omega | exact Nat.le_refl _⟩, ⟨by repeat (first | (with_reducible first | exact HB.out | apply below_alloc | apply pw_below_drewN | apply below_drew1) | exact HB.out)⟩⟩
                  · rw [if_neg c23] at H
                    have c23b0 : (a0.toList == ([] : List UInt8)) = false := beq_eq_false_iff_ne.mpr c23
                    have c23b1 : (a0.toList != ([] : List UInt8)) = true := bne_iff_ne.mpr c23
                    by_cases c24 : a1.toList = ([] : List UInt8)
                    · rw [if_pos c24] at H
                      have c24b0 : (a1.toList == ([] : List UInt8)) = true := beq_iff_eq.mpr c24
                      have c24b1 : (a1.toList != ([] : List UInt8)) = false := bne_eq_false_iff_eq.mpr c24
                      clear c24
                      have H' := Aside0.mk H
                      clear H
                      go_wp2
                      go_meet
                      case rel => exact ⟨_, (false), (by first | rfl | (simp; done) | (simp [*]; done)), H', ⟨by have := HJ5.out; have := HJ11.out; first | omega | exact Nat.le_refl _⟩, ⟨by repeat (first | (with_reducible first | exact HB.out | apply below_alloc | apply pw_below_drewN | apply below_drew1) | exact HB.out)⟩⟩
                    · rw [if_neg c24] at H
                      have c24b0 : (a1.toList == ([] : List UInt8)) = false := beq_eq_false_iff_ne.mpr c24
                      have c24b1 : (a1.toList != ([] : List UInt8)) = true := bne_iff_ne.mpr c24
                      by_cases c25 : a0.size + a1.size ≤ 9223372036854775807
                      · rw [if_pos c25] at H
                        have c25b0 := eq_true c25
                        have c25b1 : decide (a0.size + a1.size ≤ 9223372036854775807) = true := decide_eq_true c25
                        try have c25b2 : (9223372036854775807 < a0.size + a1.size) = False := eq_false (Nat.not_lt.2 c25)
                        replace H := Option.bind_eq_some_iff.mp H
                        obtain ⟨t165, A260, H⟩ := H
                        replace H : (if t165 = true then (supercargolaw03_MarkJoins.j2 kj11 a0 a2 (decide (((a0.size : Int) + (a1.size : Int)) > 16))) else (supercargolaw03_MarkJoins.j2 kj11 a0 a2 false)) = some r := H
                        have A26 := Aside0.mk A260
                        clear A260
                        by_cases c27 : t165 = true
                        · subst c27
                          have H1 : (supercargolaw03_MarkJoins.j2 kj11 a0 a2 (decide (((a0.size : Int) + (a1.size : Int)) > 16))) = some r := by rw [if_pos rfl] at H; exact H
                          clear H
                          have H := H1
                          clear H1
                          have H' := Aside0.mk H
                          clear H
                          go_wp2_with (first | (go_at_call 18; (with_reducible refine (mark_Name.calls (a0 ++ a1) true _ A26.out).mono ?_); rintro e w' ⟨rfl, ⟨nd, rfl⟩⟩))
                          go_meet
                          case rel => exact ⟨_, (decide (((a0.size : Int) + (a1.size : Int)) > 16)), (by first | rfl | (simp; done) | (simp [*]; done)), H', ⟨by have := HJ5.out; have := HJ11.out; first | omega | exact Nat.le_refl _⟩, ⟨by repeat (first | (with_reducible first | exact HB.out | apply below_alloc | apply pw_below_drewN | apply below_drew1) | exact HB.out)⟩⟩
                        · replace c27 := Bool.eq_false_iff.mpr c27
                          subst c27
                          have H1 : (supercargolaw03_MarkJoins.j2 kj11 a0 a2 false) = some r := by rw [if_neg (show ¬ (false = true) by decide)] at H; exact H
                          clear H
                          have H := H1
                          clear H1
                          have H' := Aside0.mk H
                          clear H
                          go_wp2_with (first | (go_at_call 18; (with_reducible refine (mark_Name.calls (a0 ++ a1) false _ A26.out).mono ?_); rintro e w' ⟨rfl, ⟨nd, rfl⟩⟩))
                          go_meet
                          case rel => exact ⟨_, (false), (by first | rfl | (simp; done) | (simp [*]; done)), H', ⟨by have := HJ5.out; have := HJ11.out; first | omega | exact Nat.le_refl _⟩, ⟨by repeat (first | (with_reducible first | exact HB.out | apply below_alloc | apply pw_below_drewN | apply below_drew1) | exact HB.out)⟩⟩
                      · rw [if_neg c25] at H
                        exact absurd H (by simp)
              case rest =>
                clear HC16
                try clear c1
                try clear c2
                try clear p2
                try clear c5
                try clear p6
                try clear c7
                try clear c8
                try clear c8b0
                try clear c8b1
                try clear c9
                try clear c9b0
                try clear c9b1
                try clear c10
                try clear c10b0
                try clear c11
                try clear c14
                try clear c17
                try clear c18
                try clear c18b0
                try clear c18b1
                try clear c18b2
                try clear c20
                try clear c20b0
                try clear c20b1
                try clear c20b2
                try clear c21
                try clear c21b0
                try clear c21b1
                try clear c22
                try clear c22b0
                try clear c22b1
                try clear c23
                try clear c23b0
                try clear c23b1
                try clear c24
                try clear c24b0
                try clear c24b1
                try clear c25
                try clear c25b0
                try clear c25b1
                try clear c25b2
                try clear c27
                try clear p2
                obtain ⟨kq, x73_15, rfl, HA, HJ15, HB⟩ := hcut
                cases kq with
                | zero => exact absurd HA.out (by simp [supercargolaw03_MarkJoins.j2])
                | succ kj15 =>
                  have H := HA.out
                  clear HA
                  simp only [supercargolaw03_MarkJoins.j2] at H
                  by_cases c28 : x73_15 = true
                  · subst c28
                    have H1 : (some false) = some r := by rw [if_pos rfl] at H; exact H
                    clear H
                    have H := H1
                    clear H1
                    obtain rfl := Option.some.inj H
                    go_wp2
                    go_ret
                    exact ⟨by first | rfl | (simp [errW_none, errW_some] <;> rfl) | (simp [*, errW_none, errW_some] <;> rfl), by repeat (first | (with_reducible first | exact HB.out | apply below_alloc | apply pw_below_drewN | apply below_drew1) | exact HB.out)⟩
                  · replace c28 := Bool.eq_false_iff.mpr c28
                    subst c28
                    have H1 : ((mark_Name.f a0).bind fun t166 => (if t166 = true then (if 0 ≤ a2 then (if a2 ≤ (a0.size : Int) then ((mark_Name.f (a0.extract 0 (a2 : Int).toNat)).bind fun t167 => (if (t167 != (decide (a2 > 0))) = true then (supercargolaw03_MarkJoins.j3 kj15 a0 true) else ((mark_Name.f (a0.extract (a2 : Int).toNat a0.size)).bind fun t168 => (supercargolaw03_MarkJoins.j3 kj15 a0 (t168 != (decide (a2 < (a0.size : Int)))))))) else (none)) else (none)) else (supercargolaw03_MarkJoins.j3 kj15 a0 false))) = some r := by rw [if_neg (show ¬ (false = true) by decide)] at H; exact H
                    clear H
                    have H := H1
                    clear H1
                    have HC29 := Aside0.mk H
                    clear H
                    go_upto_region 8 with (fail)
                    go_cut [95] (fun v95 wc => ∃ (kq : Nat) (x95_28 : Bool), v95 = .bool x95_28 ∧ Aside0 (supercargolaw03_MarkJoins.j3 kq a0 x95_28 = some r) ∧ Aside0 (kq ≤ kj15) ∧ Aside0 (Below w.heap.size w wc))
                    case first =>
                      have H := HC29.out
                      clear HC29
                      replace H := Option.bind_eq_some_iff.mp H
                      obtain ⟨t166, A300, H⟩ := H
                      replace H : (if t166 = true then (if 0 ≤ a2 then (if a2 ≤ (a0.size : Int) then ((mark_Name.f (a0.extract 0 (a2 : Int).toNat)).bind fun t167 => (if (t167 != (decide (a2 > 0))) = true then (supercargolaw03_MarkJoins.j3 kj15 a0 true) else ((mark_Name.f (a0.extract (a2 : Int).toNat a0.size)).bind fun t168 => (supercargolaw03_MarkJoins.j3 kj15 a0 (t168 != (decide (a2 < (a0.size : Int)))))))) else (none)) else (none)) else (supercargolaw03_MarkJoins.j3 kj15 a0 false)) = some r := H
                      have A30 := Aside0.mk A300
                      clear A300
                      by_cases c31 : t166 = true
                      · subst c31
                        have H1 : (if 0 ≤ a2 then (if a2 ≤ (a0.size : Int) then ((mark_Name.f (a0.extract 0 (a2 : Int).toNat)).bind fun t167 => (if (t167 != (decide (a2 > 0))) = true then (supercargolaw03_MarkJoins.j3 kj15 a0 true) else ((mark_Name.f (a0.extract (a2 : Int).toNat a0.size)).bind fun t168 => (supercargolaw03_MarkJoins.j3 kj15 a0 (t168 != (decide (a2 < (a0.size : Int)))))))) else (none)) else (none)) = some r := by rw [if_pos rfl] at H; exact H
                        clear H
                        have H := H1
                        clear H1
                        by_cases c32 : 0 ≤ a2
                        · rw [if_pos c32] at H
                          have c32b0 := eq_true c32
                          have c32b1 : decide (0 ≤ a2) = true := decide_eq_true c32
                          clear c32
                          by_cases c33 : a2 ≤ (a0.size : Int)
                          · rw [if_pos c33] at H
                            have c33b0 := eq_true c33
                            have c33b1 : decide (a2 ≤ (a0.size : Int)) = true := decide_eq_true c33
                            clear c33
                            replace H := Option.bind_eq_some_iff.mp H
                            obtain ⟨t167, A340, H⟩ := H
                            replace H : (if (t167 != (decide (a2 > 0))) = true then (supercargolaw03_MarkJoins.j3 kj15 a0 true) else ((mark_Name.f (a0.extract (a2 : Int).toNat a0.size)).bind fun t168 => (supercargolaw03_MarkJoins.j3 kj15 a0 (t168 != (decide (a2 < (a0.size : Int))))))) = some r := H
                            have A34 := Aside0.mk A340
                            clear A340
                            by_cases c35 : (t167 != (decide (a2 > 0))) = true
                            · rw [if_pos c35] at H
                              have c35b0 : (t167 != (decide (a2 > 0))) = true := c35
                              (try (have c35b1 : decide (t167 = (decide (a2 > 0))) = false := by simpa using c35))
                              (try (have c35b2 : (t167 == (decide (a2 > 0))) = false := by simpa using c35))
                              (try (have c35b3 : ¬ (t167 = (decide (a2 > 0))) := by simpa using c35))
                              clear c35
                              (first | rw [c35b0] | (simp only [i64_w, i32_w]; rw [c35b0]) | skip)
                              have H' := Aside0.mk H
                              clear H
                              go_wp2_with (first | ((with_reducible refine gate_callee (f := 18) rfl ?_); refine goesL_ (some 75) rfl rfl Tryd.func18 (by kernel_rfl) rfl #[.string a0] rfl (by (try simp only [List.map_toArray, List.map_cons, List.map_nil]); first | done | rfl | (simp only [List.length_drop, List.length_take]; rfl)) ?_; (with_reducible refine (mark_Name.calls a0 true _ A30.out).mono ?_); rintro e w' ⟨rfl, ⟨nd, rfl⟩⟩; refine ⟨_, rfl, ?_⟩) | (go_at_call 18; (with_reducible refine (mark_Name.calls (a0.extract 0 (a2 : Int).toNat) t167 _ A34.out).mono ?_); rintro e w' ⟨rfl, ⟨nd, rfl⟩⟩))
                              go_meet
                              case rel => exact ⟨_, (true), (by first | rfl | (simp; done) | (simp [*]; done)), H', ⟨by have := HJ5.out; have := HJ11.out; have := HJ15.out; first | omega | exact Nat.le_refl _⟩, ⟨by repeat (first | (with_reducible first | exact HB.out | apply below_alloc | apply pw_below_drewN | apply below_drew1) | exact HB.out)⟩⟩
                            · rw [if_neg c35] at H
                              have c35b0 : (t167 != (decide (a2 > 0))) = false := by simpa using c35
                              (try (have c35b1 : decide (t167 = (decide (a2 > 0))) = true := by simpa using c35))
                              (try (have c35b2 : (t167 == (decide (a2 > 0))) = true := by simpa using c35))
                              clear c35
                              (first | rw [c35b0] | (simp only [i64_w, i32_w]; rw [c35b0]) | skip)
                              have c36b0 := eq_true (of_decide_eq_true (by first | (with_reducible assumption) | assumption) : 0 ≤ a2)
                              have c37b0 := eq_true (of_decide_eq_true (by first | (with_reducible assumption) | assumption) : a2 ≤ (a0.size : Int))
                              replace H := Option.bind_eq_some_iff.mp H
                              obtain ⟨t168, A380, H⟩ := H
                              replace H : (supercargolaw03_MarkJoins.j3 kj15 a0 (t168 != (decide (a2 < (a0.size : Int))))) = some r := H
                              have A38 := Aside0.mk A380
                              clear A380
                              have H' := Aside0.mk H
                              clear H
                              go_wp2_with (first | ((with_reducible refine gate_callee (f := 18) rfl ?_); refine goesL_ (some 75) rfl rfl Tryd.func18 (by kernel_rfl) rfl #[.string a0] rfl (by (try simp only [List.map_toArray, List.map_cons, List.map_nil]); first | done | rfl | (simp only [List.length_drop, List.length_take]; rfl)) ?_; (with_reducible refine (mark_Name.calls a0 true _ A30.out).mono ?_); rintro e w' ⟨rfl, ⟨nd, rfl⟩⟩; refine ⟨_, rfl, ?_⟩) | (go_at_call 18; (with_reducible refine (mark_Name.calls (a0.extract 0 (a2 : Int).toNat) t167 _ A34.out).mono ?_); rintro e w' ⟨rfl, ⟨nd, rfl⟩⟩) | (go_at_call 18; (with_reducible refine (mark_Name.calls (a0.extract (a2 : Int).toNat a0.size) t168 _ A38.out).mono ?_); rintro e w' ⟨rfl, ⟨nd, rfl⟩⟩))
                              go_meet
                              case rel => exact ⟨_, ((t168 != (decide (a2 < (a0.size : Int))))), (by first | rfl | (simp; done) | (simp [*]; done)), H', ⟨by have := HJ5.out; have := HJ11.out; have := HJ15.out; first | omega | exact Nat.le_refl _⟩, ⟨by repeat (first | (with_reducible first | exact HB.out | apply below_alloc | apply pw_below_drewN | apply below_drew1) | exact HB.out)⟩⟩
                          · rw [if_neg c33] at H
                            exact absurd H (by simp)
                        · rw [if_neg c32] at H
                          exact absurd H (by simp)
                      · replace c31 := Bool.eq_false_iff.mpr c31
                        subst c31
                        have H1 : (supercargolaw03_MarkJoins.j3 kj15 a0 false) = some r := by rw [if_neg (show ¬ (false = true) by decide)] at H; exact H
                        clear H
                        have H := H1
                        clear H1
                        have H' := Aside0.mk H
                        clear H
                        go_wp2_with (first | ((with_reducible refine gate_callee (f := 18) rfl ?_); refine goesL_ (some 75) rfl rfl Tryd.func18 (by kernel_rfl) rfl #[.string a0] rfl (by (try simp only [List.map_toArray, List.map_cons, List.map_nil]); first | done | rfl | (simp only [List.length_drop, List.length_take]; rfl)) ?_; (with_reducible refine (mark_Name.calls a0 false _ A30.out).mono ?_); rintro e w' ⟨rfl, ⟨nd, rfl⟩⟩; refine ⟨_, rfl, ?_⟩))
                        go_meet
                        case rel => exact ⟨_, (false), (by first | rfl | (simp; done) | (simp [*]; done)), H', ⟨by have := HJ5.out; have := HJ11.out; have := HJ15.out; first | omega | exact Nat.le_refl _⟩, ⟨by repeat (first | (with_reducible first | exact HB.out | apply below_alloc | apply pw_below_drewN | apply below_drew1) | exact HB.out)⟩⟩
                    case rest =>
                      clear HC29
                      try clear c1
                      try clear c2
                      try clear p2
                      try clear c3
                      try clear c5
                      try clear p6
                      try clear c7
                      try clear c8
                      try clear c8b0
                      try clear c8b1
                      try clear c9
                      try clear c9b0
                      try clear c9b1
                      try clear c10
                      try clear c10b0
                      try clear c11
                      try clear c14
                      try clear c17
                      try clear c18
                      try clear c18b0
                      try clear c18b1
                      try clear c18b2
                      try clear c20
                      try clear c20b0
                      try clear c20b1
                      try clear c20b2
                      try clear c21
                      try clear c21b0
                      try clear c21b1
                      try clear c22
                      try clear c22b0
                      try clear c22b1
                      try clear c23
                      try clear c23b0
                      try clear c23b1
                      try clear c24
                      try clear c24b0
                      try clear c24b1
                      try clear c25
                      try clear c25b0
                      try clear c25b1
                      try clear c25b2
                      try clear c27
                      try clear c28
                      try clear c31
                      try clear c32
                      try clear c32b0
                      try clear c32b1
                      try clear c33
                      try clear c33b0
                      try clear c33b1
                      try clear c35
                      try clear c35b0
                      try clear c35b1
                      try clear c35b2
                      try clear c36
                      try clear c36b0
                      try clear c37
                      try clear c37b0
                      try clear p2
                      try clear p6
                      obtain ⟨kq, x95_28, rfl, HA, HJ28, HB⟩ := hcut
                      cases kq with
                      | zero => exact absurd HA.out (by simp [supercargolaw03_MarkJoins.j3])
                      | succ kj28 =>
                        have H := HA.out
                        clear HA
                        simp only [supercargolaw03_MarkJoins.j3] at H
                        by_cases c39 : x95_28 = true
                        · subst c39
                          have H1 : (some false) = some r := by rw [if_pos rfl] at H; exact H
                          clear H
                          have H := H1
                          clear H1
                          obtain rfl := Option.some.inj H
                          go_wp2
                          go_ret
                          exact ⟨by first | rfl | (simp [errW_none, errW_some] <;> rfl) | (simp [*, errW_none, errW_some] <;> rfl), by repeat (first | (with_reducible first | exact HB.out | apply below_alloc | apply pw_below_drewN | apply below_drew1) | exact HB.out)⟩
                        · replace c39 := Bool.eq_false_iff.mpr c39
                          subst c39
                          have H1 : ((mark_Right.f a0).bind fun t169 => (if t169 = true then ((mark_Owner.f a0).bind fun t170 => ((mark_Name.f t170).bind fun t171 => (if t171 = true then (if 4 ≤ 10 then (if 10 ≤ (a0.size : Int) then ((mark_Name.f (a0.extract 4 10)).bind fun t172 => (if t172 = true then ((mark_Number.f kj28 a0).bind fun t173 => (some (decide (t173 ≥ 0)))) else (some false))) else (none)) else (none)) else (some false)))) else (some true))) = some r := by rw [if_neg (show ¬ (false = true) by decide)] at H; exact H
                          clear H
                          have H := H1
                          clear H1
                          replace H := Option.bind_eq_some_iff.mp H
                          obtain ⟨t169, A400, H⟩ := H
                          replace H : (if t169 = true then ((mark_Owner.f a0).bind fun t170 => ((mark_Name.f t170).bind fun t171 => (if t171 = true then (if 4 ≤ 10 then (if 10 ≤ (a0.size : Int) then ((mark_Name.f (a0.extract 4 10)).bind fun t172 => (if t172 = true then ((mark_Number.f kj28 a0).bind fun t173 => (some (decide (t173 ≥ 0)))) else (some false))) else (none)) else (none)) else (some false)))) else (some true)) = some r := H
                          have A40 := Aside0.mk A400
                          clear A400
                          by_cases c41 : t169 = true
                          · subst c41
                            have H1 : ((mark_Owner.f a0).bind fun t170 => ((mark_Name.f t170).bind fun t171 => (if t171 = true then (if 4 ≤ 10 then (if 10 ≤ (a0.size : Int) then ((mark_Name.f (a0.extract 4 10)).bind fun t172 => (if t172 = true then ((mark_Number.f kj28 a0).bind fun t173 => (some (decide (t173 ≥ 0)))) else (some false))) else (none)) else (none)) else (some false)))) = some r := by rw [if_pos rfl] at H; exact H
                            clear H
                            have H := H1
                            clear H1
                            replace H := Option.bind_eq_some_iff.mp H
                            obtain ⟨t170, A420, H⟩ := H
                            replace H : ((mark_Name.f t170).bind fun t171 => (if t171 = true then (if 4 ≤ 10 then (if 10 ≤ (a0.size : Int) then ((mark_Name.f (a0.extract 4 10)).bind fun t172 => (if t172 = true then ((mark_Number.f kj28 a0).bind fun t173 => (some (decide (t173 ≥ 0)))) else (some false))) else (none)) else (none)) else (some false))) = some r := H
                            have A42 := Aside0.mk A420
                            clear A420
                            replace H := Option.bind_eq_some_iff.mp H
                            obtain ⟨t171, A430, H⟩ := H
                            replace H : (if t171 = true then (if 4 ≤ 10 then (if 10 ≤ (a0.size : Int) then ((mark_Name.f (a0.extract 4 10)).bind fun t172 => (if t172 = true then ((mark_Number.f kj28 a0).bind fun t173 => (some (decide (t173 ≥ 0)))) else (some false))) else (none)) else (none)) else (some false)) = some r := H
                            have A43 := Aside0.mk A430
                            clear A430
                            by_cases c44 : t171 = true
                            · subst c44
                              have H1 : (if 4 ≤ 10 then (if 10 ≤ (a0.size : Int) then ((mark_Name.f (a0.extract 4 10)).bind fun t172 => (if t172 = true then ((mark_Number.f kj28 a0).bind fun t173 => (some (decide (t173 ≥ 0)))) else (some false))) else (none)) else (none)) = some r := by rw [if_pos rfl] at H; exact H
                              clear H
                              have H := H1
                              clear H1
                              by_cases c45 : 4 ≤ 10
                              · rw [if_pos c45] at H
                                have c45b0 := eq_true c45
                                have c45b1 : decide (4 ≤ 10) = true := decide_eq_true c45
                                clear c45
                                by_cases c46 : 10 ≤ (a0.size : Int)
                                · rw [if_pos c46] at H
                                  have c46b0 := eq_true c46
                                  have c46b1 : decide (10 ≤ (a0.size : Int)) = true := decide_eq_true c46
                                  clear c46
                                  replace H := Option.bind_eq_some_iff.mp H
                                  obtain ⟨t172, A470, H⟩ := H
                                  replace H : (if t172 = true then ((mark_Number.f kj28 a0).bind fun t173 => (some (decide (t173 ≥ 0)))) else (some false)) = some r := H
                                  have A47 := Aside0.mk A470
                                  clear A470
                                  by_cases c48 : t172 = true
                                  · subst c48
                                    have H1 : ((mark_Number.f kj28 a0).bind fun t173 => (some (decide (t173 ≥ 0)))) = some r := by rw [if_pos rfl] at H; exact H
                                    clear H
                                    have H := H1
                                    clear H1
                                    replace H := Option.bind_eq_some_iff.mp H
                                    obtain ⟨t173, A490, H⟩ := H
                                    replace H : (some (decide (t173 ≥ 0))) = some r := H
                                    have A49 := Aside0.mk A490
                                    clear A490
                                    obtain rfl := Option.some.inj H
                                    go_wp2_with (first | ((with_reducible refine gate_callee (f := 15) rfl ?_); refine goesL_ (some 97) rfl rfl Tryd.func15 (by kernel_rfl) rfl #[.string a0] rfl (by (try simp only [List.map_toArray, List.map_cons, List.map_nil]); first | done | rfl | (simp only [List.length_drop, List.length_take]; rfl)) ?_; (with_reducible refine (mark_Right.calls a0 true _ A40.out).mono ?_); rintro e w' ⟨rfl, ⟨nd, rfl⟩⟩; refine ⟨_, rfl, ?_⟩) | (go_at_call 21; (with_reducible refine (mark_Owner.calls a0 t170 _ A42.out).mono ?_); rintro e w' ⟨rfl, ⟨nd, rfl⟩⟩) | (go_at_call 18; (with_reducible refine (mark_Name.calls t170 true _ A43.out).mono ?_); rintro e w' ⟨rfl, ⟨nd, rfl⟩⟩) | (go_at_call 18; (with_reducible refine (mark_Name.calls (a0.extract 4 10) true _ A47.out).mono ?_); rintro e w' ⟨rfl, ⟨nd, rfl⟩⟩) | (go_at_call 22; (with_reducible refine (mark_Number.calls kj28 a0 t173 _ A49.out).mono ?_); rintro e w' ⟨rfl, ⟨nd, rfl⟩⟩))
                                    go_ret
                                    exact ⟨by first | rfl | (simp [errW_none, errW_some] <;> rfl) | (simp [*, errW_none, errW_some] <;> rfl), by repeat (first | (with_reducible first | exact HB.out | apply below_alloc | apply pw_below_drewN | apply below_drew1) | exact HB.out)⟩
                                  · replace c48 := Bool.eq_false_iff.mpr c48
                                    subst c48
                                    have H1 : (some false) = some r := by rw [if_neg (show ¬ (false = true) by decide)] at H; exact H
                                    clear H
                                    have H := H1
                                    clear H1
                                    obtain rfl := Option.some.inj H
                                    go_wp2_with (first | ((with_reducible refine gate_callee (f := 15) rfl ?_); refine goesL_ (some 97) rfl rfl Tryd.func15 (by kernel_rfl) rfl #[.string a0] rfl (by (try simp only [List.map_toArray, List.map_cons, List.map_nil]); first | done | rfl | (simp only [List.length_drop, List.length_take]; rfl)) ?_; (with_reducible refine (mark_Right.calls a0 true _ A40.out).mono ?_); rintro e w' ⟨rfl, ⟨nd, rfl⟩⟩; refine ⟨_, rfl, ?_⟩) | (go_at_call 21; (with_reducible refine (mark_Owner.calls a0 t170 _ A42.out).mono ?_); rintro e w' ⟨rfl, ⟨nd, rfl⟩⟩) | (go_at_call 18; (with_reducible refine (mark_Name.calls t170 true _ A43.out).mono ?_); rintro e w' ⟨rfl, ⟨nd, rfl⟩⟩) | (go_at_call 18; (with_reducible refine (mark_Name.calls (a0.extract 4 10) false _ A47.out).mono ?_); rintro e w' ⟨rfl, ⟨nd, rfl⟩⟩))
                                    go_ret
                                    exact ⟨by first | rfl | (simp [errW_none, errW_some] <;> rfl) | (simp [*, errW_none, errW_some] <;> rfl), by repeat (first | (with_reducible first | exact HB.out | apply below_alloc | apply pw_below_drewN | apply below_drew1) | exact HB.out)⟩
                                · rw [if_neg c46] at H
                                  exact absurd H (by simp)
                              · rw [if_neg c45] at H
                                exact absurd H (by simp)
                            · replace c44 := Bool.eq_false_iff.mpr c44
                              subst c44
                              have H1 : (some false) = some r := by rw [if_neg (show ¬ (false = true) by decide)] at H; exact H
                              clear H
                              have H := H1
                              clear H1
                              obtain rfl := Option.some.inj H
                              go_wp2_with (first | ((with_reducible refine gate_callee (f := 15) rfl ?_); refine goesL_ (some 97) rfl rfl Tryd.func15 (by kernel_rfl) rfl #[.string a0] rfl (by (try simp only [List.map_toArray, List.map_cons, List.map_nil]); first | done | rfl | (simp only [List.length_drop, List.length_take]; rfl)) ?_; (with_reducible refine (mark_Right.calls a0 true _ A40.out).mono ?_); rintro e w' ⟨rfl, ⟨nd, rfl⟩⟩; refine ⟨_, rfl, ?_⟩) | (go_at_call 21; (with_reducible refine (mark_Owner.calls a0 t170 _ A42.out).mono ?_); rintro e w' ⟨rfl, ⟨nd, rfl⟩⟩) | (go_at_call 18; (with_reducible refine (mark_Name.calls t170 false _ A43.out).mono ?_); rintro e w' ⟨rfl, ⟨nd, rfl⟩⟩))
                              go_ret
                              exact ⟨by first | rfl | (simp [errW_none, errW_some] <;> rfl) | (simp [*, errW_none, errW_some] <;> rfl), by repeat (first | (with_reducible first | exact HB.out | apply below_alloc | apply pw_below_drewN | apply below_drew1) | exact HB.out)⟩
                          · replace c41 := Bool.eq_false_iff.mpr c41
                            subst c41
                            have H1 : (some true) = some r := by rw [if_neg (show ¬ (false = true) by decide)] at H; exact H
                            clear H
                            have H := H1
                            clear H1
                            obtain rfl := Option.some.inj H
                            go_wp2_with (first | ((with_reducible refine gate_callee (f := 15) rfl ?_); refine goesL_ (some 97) rfl rfl Tryd.func15 (by kernel_rfl) rfl #[.string a0] rfl (by (try simp only [List.map_toArray, List.map_cons, List.map_nil]); first | done | rfl | (simp only [List.length_drop, List.length_take]; rfl)) ?_; (with_reducible refine (mark_Right.calls a0 false _ A40.out).mono ?_); rintro e w' ⟨rfl, ⟨nd, rfl⟩⟩; refine ⟨_, rfl, ?_⟩))
                            go_ret
                            exact ⟨by first | rfl | (simp [errW_none, errW_some] <;> rfl) | (simp [*, errW_none, errW_some] <;> rfl), by repeat (first | (with_reducible first | exact HB.out | apply below_alloc | apply pw_below_drewN | apply below_drew1) | exact HB.out)⟩
  · replace c5 := Bool.eq_false_iff.mpr c5
    subst c5
    have H1 : (some false) = some r := by rw [if_neg (show ¬ (false = true) by decide)] at H; exact H
    clear H
    have H := H1
    clear H1
    obtain rfl := Option.some.inj H
    go_enter Tryd.func7, Tryd.ntmps7
    go_wp2_with (first | ((with_reducible refine gate_callee (f := 11) rfl ?_); refine goesL_ (some 8) rfl rfl Tryd.func11 (by kernel_rfl) rfl #[] rfl (by (try simp only [List.map_toArray, List.map_cons, List.map_nil]); first | done | rfl | (simp only [List.length_drop, List.length_take]; rfl)) ?_; (with_reducible refine (supercargolaw03_awake.calls  false _ A4.out (TB.below HT (by repeat (first | (with_reducible first | exact HB.out | apply below_alloc | apply pw_below_drewN | apply below_drew1) | exact HB.out)))).mono ?_); rintro e w50 ⟨rfl, hb⟩; refine ⟨_, rfl, ?_⟩; have n0_ := Aside0.mk (below_step (by repeat (first | (with_reducible first | exact HB.out | apply below_alloc | apply pw_below_drewN | apply below_drew1) | exact HB.out)) hb); clear HB; have HB := n0_; clear n0_; (try clear hb); (try clear hb2); (try clear hk); (try clear hi)))
    go_ret
    exact ⟨by first | rfl | (simp [errW_none, errW_some] <;> rfl) | (simp [*, errW_none, errW_some] <;> rfl), by repeat (first | (with_reducible first | exact HB.out | apply below_alloc | apply pw_below_drewN | apply below_drew1) | exact HB.out)⟩

-- EXTERN: function 23 (mark_Mend)

end Go.Proofs.YtkfcllapmkeihaaDoor.X
