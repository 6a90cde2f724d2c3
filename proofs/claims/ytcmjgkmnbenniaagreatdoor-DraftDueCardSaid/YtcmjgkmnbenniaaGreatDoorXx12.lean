-- Written by wip/xprint.py (this session) over the kit's print.py
import Derived.Test.YtcmjgkmnbenniaaGreatDoorXx0
import Derived.Test.YtcmjgkmnbenniaaGreatDoorXx11
namespace Go.Proofs.YtcmjgkmnbenniaaGreatDoor.X
open Go.RowKit Go.Proofs.YtcmjgkmnbenniaaGreatDoor.Ext Go.Proofs.YtcmjgkmnbenniaaGreatDoorW.PrintWords Go.Proofs.YtcmjgkmnbenniaaGreatDoorW.PrintLast Go.Proofs.YtcmjgkmnbenniaaGreatDoorW.PrintMore
attribute [local go_sem] max2_int min2_int max_two min_two max_three min_three max_four min_four   -- for this text's walks alone
set_option linter.unusedVariables false
set_option linter.unusedSimpArgs false

/-! ### supercargoref38_May: function 9 -/
mutual
def supercargoref38_May.j0 : Nat → Bool → ByteArray → ByteArray → ByteArray → ByteArray → ByteArray → Int → Int → Int → Int → Option (Bool)
  | 0, _, _, _, _, _, _, _, _, _, _ => none
  | k + 1, x38, x271000, x271001, x271002, x271003, x271004, x271005, x271006, x271007, x271008 => if x38 = true then (some false) else ((supercargoref38_Money.f k x271004 x271005).bind fun t275 => (if t275 = true then (if x271008 < 0 then (supercargoref38_May.j1 k true x271000 x271001 x271002 x271003 x271004 x271005 x271006 x271007 x271008) else (supercargoref38_May.j1 k (decide (x271008 > 1048576)) x271000 x271001 x271002 x271003 x271004 x271005 x271006 x271007 x271008)) else (supercargoref38_May.j1 k true x271000 x271001 x271002 x271003 x271004 x271005 x271006 x271007 x271008)))
def supercargoref38_May.j1 : Nat → Bool → ByteArray → ByteArray → ByteArray → ByteArray → ByteArray → Int → Int → Int → Int → Option (Bool)
  | 0, _, _, _, _, _, _, _, _, _, _ => none
  | k + 1, x52, x271000, x271001, x271002, x271003, x271004, x271005, x271006, x271007, x271008 => if x52 = true then (some false) else (if x271006 = 0 then (some (x271007 == 0)) else (if x271006 = 1 then (if x271007 ≥ 1 then (some (decide (x271007 ≤ 1000))) else (some false)) else (if x271006 = 2 then (if x271007 ≥ 1 then (some (decide (x271007 ≤ 1000))) else (some false)) else (some false))))
end
def supercargoref38_May.f (k : Nat) (a0_0 : ByteArray) (a0_1 : ByteArray) (a0_2 : ByteArray) (a0_3 : ByteArray) (a0_4 : ByteArray) (a0_5 : Int) (a0_6 : Int) (a0_7 : Int) (a0_8 : Int) : Option (Bool) := (supercargoref06_Name.f k a0_0).bind fun t271 => (if t271 = true then ((supercargoref06_Name.f k a0_1).bind fun t272 => (if t272 = true then ((supercargoref06_Name.f k a0_2).bind fun t273 => (if t273 = true then ((supercargoref06_Name.f k a0_3).bind fun t274 => (if t274 = true then (if a0_1.toList = a0_2.toList then (supercargoref38_May.j0 k true a0_0 a0_1 a0_2 a0_3 a0_4 a0_5 a0_6 a0_7 a0_8) else (supercargoref38_May.j0 k (a0_3.toList == a0_2.toList) a0_0 a0_1 a0_2 a0_3 a0_4 a0_5 a0_6 a0_7 a0_8)) else (supercargoref38_May.j0 k true a0_0 a0_1 a0_2 a0_3 a0_4 a0_5 a0_6 a0_7 a0_8))) else (supercargoref38_May.j0 k true a0_0 a0_1 a0_2 a0_3 a0_4 a0_5 a0_6 a0_7 a0_8))) else (supercargoref38_May.j0 k true a0_0 a0_1 a0_2 a0_3 a0_4 a0_5 a0_6 a0_7 a0_8))) else (supercargoref38_May.j0 k true a0_0 a0_1 a0_2 a0_3 a0_4 a0_5 a0_6 a0_7 a0_8))
theorem supercargoref38_May.mono_l : ∀ k, (∀ y0 y1 y2 y3 y4 y5 y6 y7 y8 y9, LeO (supercargoref38_May.j0 k y0 y1 y2 y3 y4 y5 y6 y7 y8 y9) (supercargoref38_May.j0 (k + 1) y0 y1 y2 y3 y4 y5 y6 y7 y8 y9)) ∧ (∀ y0 y1 y2 y3 y4 y5 y6 y7 y8 y9, LeO (supercargoref38_May.j1 k y0 y1 y2 y3 y4 y5 y6 y7 y8 y9) (supercargoref38_May.j1 (k + 1) y0 y1 y2 y3 y4 y5 y6 y7 y8 y9))
  | 0 => ⟨fun _ _ _ _ _ _ _ _ _ _ r h => by simp [supercargoref38_May.j0] at h, fun _ _ _ _ _ _ _ _ _ _ r h => by simp [supercargoref38_May.j1] at h⟩
  | k + 1 => by
    obtain ⟨ih0, ih1⟩ := supercargoref38_May.mono_l k
    refine ⟨?_, ?_⟩
    · intro y0 y1 y2 y3 y4 y5 y6 y7 y8 y9
      unfold supercargoref38_May.j0
      repeat' first
      | (with_reducible exact ih0 _ _ _ _ _ _ _ _ _ _)
      | (with_reducible exact ih1 _ _ _ _ _ _ _ _ _ _)
      | (with_reducible exact supercargoref06_Name.mono _ _)
      | (with_reducible exact supercargoref38_Money.mono _ _ _)
      | (with_reducible exact LeO.refl _)
      | (with_reducible exact LeO.none _)
      | (with_reducible refine LeO.ite ?_ ?_)
      | (with_reducible refine LeO.bind ?_ (fun _ => ?_))
      | exact ih0 _ _ _ _ _ _ _ _ _ _
      | exact ih1 _ _ _ _ _ _ _ _ _ _
      | exact supercargoref06_Name.mono _ _
      | exact supercargoref38_Money.mono _ _ _
      | exact LeO.none _
      | refine LeO.ite ?_ ?_
      | refine LeO.bind ?_ (fun _ => ?_)
    · intro y0 y1 y2 y3 y4 y5 y6 y7 y8 y9
      unfold supercargoref38_May.j1
      repeat' first
      | (with_reducible exact ih0 _ _ _ _ _ _ _ _ _ _)
      | (with_reducible exact ih1 _ _ _ _ _ _ _ _ _ _)
      | (with_reducible exact supercargoref06_Name.mono _ _)
      | (with_reducible exact supercargoref38_Money.mono _ _ _)
      | (with_reducible exact LeO.refl _)
      | (with_reducible exact LeO.none _)
      | (with_reducible refine LeO.ite ?_ ?_)
      | (with_reducible refine LeO.bind ?_ (fun _ => ?_))
      | exact ih0 _ _ _ _ _ _ _ _ _ _
      | exact ih1 _ _ _ _ _ _ _ _ _ _
      | exact supercargoref06_Name.mono _ _
      | exact supercargoref38_Money.mono _ _ _
      | exact LeO.none _
      | refine LeO.ite ?_ ?_
      | refine LeO.bind ?_ (fun _ => ?_)
theorem supercargoref38_May.mono : ∀ a0 a1 a2 a3 a4 a5 a6 a7 a8 k, LeO (supercargoref38_May.f k a0 a1 a2 a3 a4 a5 a6 a7 a8) (supercargoref38_May.f (k + 1) a0 a1 a2 a3 a4 a5 a6 a7 a8) := by
  intro a0 a1 a2 a3 a4 a5 a6 a7 a8 k
  obtain ⟨ih0, ih1⟩ := supercargoref38_May.mono_l k
  unfold supercargoref38_May.f
  repeat' first
      | (with_reducible exact ih0 _ _ _ _ _ _ _ _ _ _)
      | (with_reducible exact ih1 _ _ _ _ _ _ _ _ _ _)
      | (with_reducible exact supercargoref06_Name.mono _ _)
      | (with_reducible exact supercargoref38_Money.mono _ _ _)
      | (with_reducible exact LeO.refl _)
      | (with_reducible exact LeO.none _)
      | (with_reducible refine LeO.ite ?_ ?_)
      | (with_reducible refine LeO.bind ?_ (fun _ => ?_))
      | exact ih0 _ _ _ _ _ _ _ _ _ _
      | exact ih1 _ _ _ _ _ _ _ _ _ _
      | exact supercargoref06_Name.mono _ _
      | exact supercargoref38_Money.mono _ _ _
      | exact LeO.none _
      | refine LeO.ite ?_ ?_
      | refine LeO.bind ?_ (fun _ => ?_)
set_option maxHeartbeats 8000000 in
set_option maxRecDepth 100000 in
theorem supercargoref38_May.calls (k : Nat) (a0_0 : ByteArray) (a0_1 : ByteArray) (a0_2 : ByteArray) (a0_3 : ByteArray) (a0_4 : ByteArray) (a0_5 : Int) (a0_6 : Int) (a0_7 : Int) (a0_8 : Int) (r : Bool) (w : World) (h : supercargoref38_May.f k a0_0 a0_1 a0_2 a0_3 a0_4 a0_5 a0_6 a0_7 a0_8 = some r) :
    Calls Tryz.prog 9 #[.agg #[.string a0_0, .string a0_1, .string a0_2, .string a0_3, .string a0_4, .int .i64 a0_5, .int .i64 a0_6, .int .i64 a0_7, .int .i64 a0_8]] w fun e w' => e = .returned (.bool r) ∧ Below w.heap.size w w' := by
  have hu28 := Tryz.underlying28
  have hu26 := Tryz.underlying26
  have HB := Aside0.mk (Below.refl w.heap.size w)
  have H : ((supercargoref06_Name.f k a0_0).bind fun t271 => (if t271 = true then ((supercargoref06_Name.f k a0_1).bind fun t272 => (if t272 = true then ((supercargoref06_Name.f k a0_2).bind fun t273 => (if t273 = true then ((supercargoref06_Name.f k a0_3).bind fun t274 => (if t274 = true then (if a0_1.toList = a0_2.toList then (supercargoref38_May.j0 k true a0_0 a0_1 a0_2 a0_3 a0_4 a0_5 a0_6 a0_7 a0_8) else (supercargoref38_May.j0 k (a0_3.toList == a0_2.toList) a0_0 a0_1 a0_2 a0_3 a0_4 a0_5 a0_6 a0_7 a0_8)) else (supercargoref38_May.j0 k true a0_0 a0_1 a0_2 a0_3 a0_4 a0_5 a0_6 a0_7 a0_8))) else (supercargoref38_May.j0 k true a0_0 a0_1 a0_2 a0_3 a0_4 a0_5 a0_6 a0_7 a0_8))) else (supercargoref38_May.j0 k true a0_0 a0_1 a0_2 a0_3 a0_4 a0_5 a0_6 a0_7 a0_8))) else (supercargoref38_May.j0 k true a0_0 a0_1 a0_2 a0_3 a0_4 a0_5 a0_6 a0_7 a0_8))) = some r := h
  clear h
  have HC2 := Aside0.mk H
  clear H
  go_enter Tryz.func9, Tryz.ntmps9
  go_upto_region 1 with (first | ((with_reducible refine gate_dst (N := 1) rfl ?_); refine box_event ?hg (N := 1) ?hd (cs := #[.string a0_0, .string a0_1, .string a0_2, .string a0_3, .string a0_4, .int .i64 a0_5, .int .i64 a0_6, .int .i64 a0_7, .int .i64 a0_8]) (t := 28) ?hr ?_; (case hd => rfl); (case hg => rfl); (case hr => first | (go_simp; done) | (go_simp; rfl)); intro gb270 hg w3 hbox hb; have n0_ := Aside0.mk (below_step (by repeat (first | (with_reducible first | exact HB.out | apply below_alloc | apply pw_below_drewN | apply below_drew1) | exact HB.out)) hb); have n1_ := Aside0.mk (hbox); have n2_ := Aside0.mk ((by rw [hg]; exact (below_size (by repeat (first | (with_reducible first | exact HB.out | apply below_alloc | apply pw_below_drewN | apply below_drew1) | exact HB.out))) : w.heap.size ≤ gb270)); have n3_ := Aside0.mk ((by rw [hg]; exact (below_size (by repeat (first | (with_reducible first | exact HB.out | apply below_alloc | apply pw_below_drewN | apply below_drew1) | exact HB.out))) : w.heap.size ≤ gb270)); clear HB; have HB := n0_; have BK270 := n1_; have GW270 := n2_; have GE270 := n3_; clear n0_ n1_ n2_ n3_; clear hb hbox hg))
  (try simp only [Act.put, List.setIfInBounds_toArray, List.set_cons_zero, List.set_cons_succ])
  go_cut [38] (fun v38 wc => ∃ (kq : Nat) (x38_1 : Bool), v38 = .bool x38_1 ∧ Aside0 (supercargoref38_May.j0 kq x38_1 a0_0 a0_1 a0_2 a0_3 a0_4 a0_5 a0_6 a0_7 a0_8 = some r) ∧ Aside0 (kq ≤ k) ∧ Aside0 (wc.heap[gb270]? = some (.cells #[.string a0_0, .string a0_1, .string a0_2, .string a0_3, .string a0_4, .int .i64 a0_5, .int .i64 a0_6, .int .i64 a0_7, .int .i64 a0_8] 28 (0, 0))) ∧ Aside0 (Below w.heap.size w wc))
  case first =>
    have H := HC2.out
    clear HC2
    replace H := Option.bind_eq_some_iff.mp H
    obtain ⟨t271, A40, H⟩ := H
    replace H : (if t271 = true then ((supercargoref06_Name.f k a0_1).bind fun t272 => (if t272 = true then ((supercargoref06_Name.f k a0_2).bind fun t273 => (if t273 = true then ((supercargoref06_Name.f k a0_3).bind fun t274 => (if t274 = true then (if a0_1.toList = a0_2.toList then (supercargoref38_May.j0 k true a0_0 a0_1 a0_2 a0_3 a0_4 a0_5 a0_6 a0_7 a0_8) else (supercargoref38_May.j0 k (a0_3.toList == a0_2.toList) a0_0 a0_1 a0_2 a0_3 a0_4 a0_5 a0_6 a0_7 a0_8)) else (supercargoref38_May.j0 k true a0_0 a0_1 a0_2 a0_3 a0_4 a0_5 a0_6 a0_7 a0_8))) else (supercargoref38_May.j0 k true a0_0 a0_1 a0_2 a0_3 a0_4 a0_5 a0_6 a0_7 a0_8))) else (supercargoref38_May.j0 k true a0_0 a0_1 a0_2 a0_3 a0_4 a0_5 a0_6 a0_7 a0_8))) else (supercargoref38_May.j0 k true a0_0 a0_1 a0_2 a0_3 a0_4 a0_5 a0_6 a0_7 a0_8)) = some r := H
    have A4 := Aside0.mk A40
    clear A40
    by_cases c5 : t271 = true
    · subst c5
      have H1 : ((supercargoref06_Name.f k a0_1).bind fun t272 => (if t272 = true then ((supercargoref06_Name.f k a0_2).bind fun t273 => (if t273 = true then ((supercargoref06_Name.f k a0_3).bind fun t274 => (if t274 = true then (if a0_1.toList = a0_2.toList then (supercargoref38_May.j0 k true a0_0 a0_1 a0_2 a0_3 a0_4 a0_5 a0_6 a0_7 a0_8) else (supercargoref38_May.j0 k (a0_3.toList == a0_2.toList) a0_0 a0_1 a0_2 a0_3 a0_4 a0_5 a0_6 a0_7 a0_8)) else (supercargoref38_May.j0 k true a0_0 a0_1 a0_2 a0_3 a0_4 a0_5 a0_6 a0_7 a0_8))) else (supercargoref38_May.j0 k true a0_0 a0_1 a0_2 a0_3 a0_4 a0_5 a0_6 a0_7 a0_8))) else (supercargoref38_May.j0 k true a0_0 a0_1 a0_2 a0_3 a0_4 a0_5 a0_6 a0_7 a0_8))) = some r := by rw [if_pos rfl] at H; exact H
      clear H
      have H := H1
      clear H1
      replace H := Option.bind_eq_some_iff.mp H
      obtain ⟨t272, A60, H⟩ := H
      replace H : (if t272 = true then ((supercargoref06_Name.f k a0_2).bind fun t273 => (if t273 = true then ((supercargoref06_Name.f k a0_3).bind fun t274 => (if t274 = true then (if a0_1.toList = a0_2.toList then (supercargoref38_May.j0 k true a0_0 a0_1 a0_2 a0_3 a0_4 a0_5 a0_6 a0_7 a0_8) else (supercargoref38_May.j0 k (a0_3.toList == a0_2.toList) a0_0 a0_1 a0_2 a0_3 a0_4 a0_5 a0_6 a0_7 a0_8)) else (supercargoref38_May.j0 k true a0_0 a0_1 a0_2 a0_3 a0_4 a0_5 a0_6 a0_7 a0_8))) else (supercargoref38_May.j0 k true a0_0 a0_1 a0_2 a0_3 a0_4 a0_5 a0_6 a0_7 a0_8))) else (supercargoref38_May.j0 k true a0_0 a0_1 a0_2 a0_3 a0_4 a0_5 a0_6 a0_7 a0_8)) = some r := H
      have A6 := Aside0.mk A60
      clear A60
      by_cases c7 : t272 = true
      · subst c7
        have H1 : ((supercargoref06_Name.f k a0_2).bind fun t273 => (if t273 = true then ((supercargoref06_Name.f k a0_3).bind fun t274 => (if t274 = true then (if a0_1.toList = a0_2.toList then (supercargoref38_May.j0 k true a0_0 a0_1 a0_2 a0_3 a0_4 a0_5 a0_6 a0_7 a0_8) else (supercargoref38_May.j0 k (a0_3.toList == a0_2.toList) a0_0 a0_1 a0_2 a0_3 a0_4 a0_5 a0_6 a0_7 a0_8)) else (supercargoref38_May.j0 k true a0_0 a0_1 a0_2 a0_3 a0_4 a0_5 a0_6 a0_7 a0_8))) else (supercargoref38_May.j0 k true a0_0 a0_1 a0_2 a0_3 a0_4 a0_5 a0_6 a0_7 a0_8))) = some r := by rw [if_pos rfl] at H; exact H
        clear H
        have H := H1
        clear H1
        replace H := Option.bind_eq_some_iff.mp H
        obtain ⟨t273, A80, H⟩ := H
        replace H : (if t273 = true then ((supercargoref06_Name.f k a0_3).bind fun t274 => (if t274 = true then (if a0_1.toList = a0_2.toList then (supercargoref38_May.j0 k true a0_0 a0_1 a0_2 a0_3 a0_4 a0_5 a0_6 a0_7 a0_8) else (supercargoref38_May.j0 k (a0_3.toList == a0_2.toList) a0_0 a0_1 a0_2 a0_3 a0_4 a0_5 a0_6 a0_7 a0_8)) else (supercargoref38_May.j0 k true a0_0 a0_1 a0_2 a0_3 a0_4 a0_5 a0_6 a0_7 a0_8))) else (supercargoref38_May.j0 k true a0_0 a0_1 a0_2 a0_3 a0_4 a0_5 a0_6 a0_7 a0_8)) = some r := H
        have A8 := Aside0.mk A80
        clear A80
        by_cases c9 : t273 = true
        · subst c9
          have H1 : ((supercargoref06_Name.f k a0_3).bind fun t274 => (if t274 = true then (if a0_1.toList = a0_2.toList then (supercargoref38_May.j0 k true a0_0 a0_1 a0_2 a0_3 a0_4 a0_5 a0_6 a0_7 a0_8) else (supercargoref38_May.j0 k (a0_3.toList == a0_2.toList) a0_0 a0_1 a0_2 a0_3 a0_4 a0_5 a0_6 a0_7 a0_8)) else (supercargoref38_May.j0 k true a0_0 a0_1 a0_2 a0_3 a0_4 a0_5 a0_6 a0_7 a0_8))) = some r := by rw [if_pos rfl] at H; exact H
          clear H
          have H := H1
          clear H1
          replace H := Option.bind_eq_some_iff.mp H
          obtain ⟨t274, A100, H⟩ := H
          replace H : (if t274 = true then (if a0_1.toList = a0_2.toList then (supercargoref38_May.j0 k true a0_0 a0_1 a0_2 a0_3 a0_4 a0_5 a0_6 a0_7 a0_8) else (supercargoref38_May.j0 k (a0_3.toList == a0_2.toList) a0_0 a0_1 a0_2 a0_3 a0_4 a0_5 a0_6 a0_7 a0_8)) else (supercargoref38_May.j0 k true a0_0 a0_1 a0_2 a0_3 a0_4 a0_5 a0_6 a0_7 a0_8)) = some r := H
          have A10 := Aside0.mk A100
          clear A100
          by_cases c11 : t274 = true
          · subst c11
            have H1 : (if a0_1.toList = a0_2.toList then (supercargoref38_May.j0 k true a0_0 a0_1 a0_2 a0_3 a0_4 a0_5 a0_6 a0_7 a0_8) else (supercargoref38_May.j0 k (a0_3.toList == a0_2.toList) a0_0 a0_1 a0_2 a0_3 a0_4 a0_5 a0_6 a0_7 a0_8)) = some r := by rw [if_pos rfl] at H; exact H
            clear H
            have H := H1
            clear H1
            by_cases c12 : a0_1.toList = a0_2.toList
            · rw [if_pos c12] at H
              have c12b0 : (a0_1.toList == a0_2.toList) = true := beq_iff_eq.mpr c12
              have c12b1 : (a0_1.toList != a0_2.toList) = false := bne_eq_false_iff_eq.mpr c12
              clear c12
              (first | rw [c12b0] | (simp only [i64_w, i32_w]; rw [c12b0]) | skip)
              have H' := Aside0.mk H
              clear H
              have hcz13_0 : w3.cell? ⟨gb270, 0, none⟩ = some (.string a0_0) := (blk_cell BK270.out 0).trans rfl
              have hcz13_1 : w3.cell? ⟨gb270, 1, none⟩ = some (.string a0_1) := (blk_cell BK270.out 1).trans rfl
              have hcz13_2 : w3.cell? ⟨gb270, 2, none⟩ = some (.string a0_2) := (blk_cell BK270.out 2).trans rfl
              have hcz13_3 : w3.cell? ⟨gb270, 3, none⟩ = some (.string a0_3) := (blk_cell BK270.out 3).trans rfl
              have hcz13_4 : w3.cell? ⟨gb270, 4, none⟩ = some (.string a0_4) := (blk_cell BK270.out 4).trans rfl
              have hcz13_5 : w3.cell? ⟨gb270, 5, none⟩ = some (.int .i64 a0_5) := (blk_cell BK270.out 5).trans rfl
              have hcz13_6 : w3.cell? ⟨gb270, 6, none⟩ = some (.int .i64 a0_6) := (blk_cell BK270.out 6).trans rfl
              have hcz13_7 : w3.cell? ⟨gb270, 7, none⟩ = some (.int .i64 a0_7) := (blk_cell BK270.out 7).trans rfl
              have hcz13_8 : w3.cell? ⟨gb270, 8, none⟩ = some (.int .i64 a0_8) := (blk_cell BK270.out 8).trans rfl
              have hfz13_0 := blk_frozen BK270.out 0
              have hfz13_1 := blk_frozen BK270.out 1
              have hfz13_2 := blk_frozen BK270.out 2
              have hfz13_3 := blk_frozen BK270.out 3
              have hfz13_4 := blk_frozen BK270.out 4
              have hfz13_5 := blk_frozen BK270.out 5
              have hfz13_6 := blk_frozen BK270.out 6
              have hfz13_7 := blk_frozen BK270.out 7
              have hfz13_8 := blk_frozen BK270.out 8
              go_wp2_with (first | ((with_reducible refine gate_callee (f := 26) rfl ?_); refine goesL_ (some 5) rfl rfl Tryz.func26 (by kernel_rfl) rfl #[.string a0_0] rfl (by (try simp only [List.map_toArray, List.map_cons, List.map_nil]); first | done | rfl | (simp only [List.length_drop, List.length_take]; rfl)) ?_; (with_reducible refine (supercargoref06_Name.calls k a0_0 true _ A4.out).mono ?_); rintro e w' ⟨rfl, ⟨nd, rfl⟩⟩; refine ⟨_, rfl, ?_⟩) | (go_at_call 26; (with_reducible refine (supercargoref06_Name.calls k a0_1 true _ A6.out).mono ?_); rintro e w' ⟨rfl, ⟨nd, rfl⟩⟩) | (go_at_call 26; (with_reducible refine (supercargoref06_Name.calls k a0_2 true _ A8.out).mono ?_); rintro e w' ⟨rfl, ⟨nd, rfl⟩⟩) | (go_at_call 26; (with_reducible refine (supercargoref06_Name.calls k a0_3 true _ A10.out).mono ?_); rintro e w' ⟨rfl, ⟨nd, rfl⟩⟩))
              go_meet
              case rel => exact ⟨_, (true), (by first | rfl | (simp; done) | (simp [*]; done)), H', ⟨by first | omega | exact Nat.le_refl _⟩, ⟨by (with_reducible repeat (first | refine blk_drewN ?_ _ | refine blk_drew ?_ | refine blk_alloc ?_ _)); exact BK270.out⟩, ⟨by repeat (first | (with_reducible first | exact HB.out | apply below_alloc | apply pw_below_drewN | apply below_drew1 | refine below_set ?_ GE270.out) | exact HB.out)⟩⟩
            · rw [if_neg c12] at H
              have c12b0 : (a0_1.toList == a0_2.toList) = false := beq_eq_false_iff_ne.mpr c12
              have c12b1 : (a0_1.toList != a0_2.toList) = true := bne_iff_ne.mpr c12
              (first | rw [c12b0] | (simp only [i64_w, i32_w]; rw [c12b0]) | skip)
              have H' := Aside0.mk H
              clear H
              have hcz14_0 : w3.cell? ⟨gb270, 0, none⟩ = some (.string a0_0) := (blk_cell BK270.out 0).trans rfl
              have hcz14_1 : w3.cell? ⟨gb270, 1, none⟩ = some (.string a0_1) := (blk_cell BK270.out 1).trans rfl
              have hcz14_2 : w3.cell? ⟨gb270, 2, none⟩ = some (.string a0_2) := (blk_cell BK270.out 2).trans rfl
              have hcz14_3 : w3.cell? ⟨gb270, 3, none⟩ = some (.string a0_3) := (blk_cell BK270.out 3).trans rfl
              have hcz14_4 : w3.cell? ⟨gb270, 4, none⟩ = some (.string a0_4) := (blk_cell BK270.out 4).trans rfl
              have hcz14_5 : w3.cell? ⟨gb270, 5, none⟩ = some (.int .i64 a0_5) := (blk_cell BK270.out 5).trans rfl
              have hcz14_6 : w3.cell? ⟨gb270, 6, none⟩ = some (.int .i64 a0_6) := (blk_cell BK270.out 6).trans rfl
              have hcz14_7 : w3.cell? ⟨gb270, 7, none⟩ = some (.int .i64 a0_7) := (blk_cell BK270.out 7).trans rfl
              have hcz14_8 : w3.cell? ⟨gb270, 8, none⟩ = some (.int .i64 a0_8) := (blk_cell BK270.out 8).trans rfl
              have hfz14_0 := blk_frozen BK270.out 0
              have hfz14_1 := blk_frozen BK270.out 1
              have hfz14_2 := blk_frozen BK270.out 2
              have hfz14_3 := blk_frozen BK270.out 3
              have hfz14_4 := blk_frozen BK270.out 4
              have hfz14_5 := blk_frozen BK270.out 5
              have hfz14_6 := blk_frozen BK270.out 6
              have hfz14_7 := blk_frozen BK270.out 7
              have hfz14_8 := blk_frozen BK270.out 8
              go_wp2_with (first | ((with_reducible refine gate_callee (f := 26) rfl ?_); refine goesL_ (some 5) rfl rfl Tryz.func26 (by kernel_rfl) rfl #[.string a0_0] rfl (by (try simp only [List.map_toArray, List.map_cons, List.map_nil]); first | done | rfl | (simp only [List.length_drop, List.length_take]; rfl)) ?_; (with_reducible refine (supercargoref06_Name.calls k a0_0 true _ A4.out).mono ?_); rintro e w' ⟨rfl, ⟨nd, rfl⟩⟩; refine ⟨_, rfl, ?_⟩) | (go_at_call 26; (with_reducible refine (supercargoref06_Name.calls k a0_1 true _ A6.out).mono ?_); rintro e w' ⟨rfl, ⟨nd, rfl⟩⟩) | (go_at_call 26; (with_reducible refine (supercargoref06_Name.calls k a0_2 true _ A8.out).mono ?_); rintro e w' ⟨rfl, ⟨nd, rfl⟩⟩) | (go_at_call 26; (with_reducible refine (supercargoref06_Name.calls k a0_3 true _ A10.out).mono ?_); rintro e w' ⟨rfl, ⟨nd, rfl⟩⟩))
              go_meet
              case rel => exact ⟨_, ((a0_3.toList == a0_2.toList)), (by first | rfl | (simp; done) | (simp [*]; done)), H', ⟨by first | omega | exact Nat.le_refl _⟩, ⟨by (with_reducible repeat (first | refine blk_drewN ?_ _ | refine blk_drew ?_ | refine blk_alloc ?_ _)); exact BK270.out⟩, ⟨by repeat (first | (with_reducible first | exact HB.out | apply below_alloc | apply pw_below_drewN | apply below_drew1 | refine below_set ?_ GE270.out) | exact HB.out)⟩⟩
          · replace c11 := Bool.eq_false_iff.mpr c11
            subst c11
            have H1 : (supercargoref38_May.j0 k true a0_0 a0_1 a0_2 a0_3 a0_4 a0_5 a0_6 a0_7 a0_8) = some r := by rw [if_neg (show ¬ (false = true) by decide)] at H; exact H
            clear H
            have H := H1
            clear H1
            have H' := Aside0.mk H
            clear H
            have hcz15_0 : w3.cell? ⟨gb270, 0, none⟩ = some (.string a0_0) := (blk_cell BK270.out 0).trans rfl
            have hcz15_1 : w3.cell? ⟨gb270, 1, none⟩ = some (.string a0_1) := (blk_cell BK270.out 1).trans rfl
            have hcz15_2 : w3.cell? ⟨gb270, 2, none⟩ = some (.string a0_2) := (blk_cell BK270.out 2).trans rfl
            have hcz15_3 : w3.cell? ⟨gb270, 3, none⟩ = some (.string a0_3) := (blk_cell BK270.out 3).trans rfl
            have hcz15_4 : w3.cell? ⟨gb270, 4, none⟩ = some (.string a0_4) := (blk_cell BK270.out 4).trans rfl
            have hcz15_5 : w3.cell? ⟨gb270, 5, none⟩ = some (.int .i64 a0_5) := (blk_cell BK270.out 5).trans rfl
            have hcz15_6 : w3.cell? ⟨gb270, 6, none⟩ = some (.int .i64 a0_6) := (blk_cell BK270.out 6).trans rfl
            have hcz15_7 : w3.cell? ⟨gb270, 7, none⟩ = some (.int .i64 a0_7) := (blk_cell BK270.out 7).trans rfl
            have hcz15_8 : w3.cell? ⟨gb270, 8, none⟩ = some (.int .i64 a0_8) := (blk_cell BK270.out 8).trans rfl
            have hfz15_0 := blk_frozen BK270.out 0
            have hfz15_1 := blk_frozen BK270.out 1
            have hfz15_2 := blk_frozen BK270.out 2
            have hfz15_3 := blk_frozen BK270.out 3
            have hfz15_4 := blk_frozen BK270.out 4
            have hfz15_5 := blk_frozen BK270.out 5
            have hfz15_6 := blk_frozen BK270.out 6
            have hfz15_7 := blk_frozen BK270.out 7
            have hfz15_8 := blk_frozen BK270.out 8
            go_wp2_with (first | ((with_reducible refine gate_callee (f := 26) rfl ?_); refine goesL_ (some 5) rfl rfl Tryz.func26 (by kernel_rfl) rfl #[.string a0_0] rfl (by (try simp only [List.map_toArray, List.map_cons, List.map_nil]); first | done | rfl | (simp only [List.length_drop, List.length_take]; rfl)) ?_; (with_reducible refine (supercargoref06_Name.calls k a0_0 true _ A4.out).mono ?_); rintro e w' ⟨rfl, ⟨nd, rfl⟩⟩; refine ⟨_, rfl, ?_⟩) | (go_at_call 26; (with_reducible refine (supercargoref06_Name.calls k a0_1 true _ A6.out).mono ?_); rintro e w' ⟨rfl, ⟨nd, rfl⟩⟩) | (go_at_call 26; (with_reducible refine (supercargoref06_Name.calls k a0_2 true _ A8.out).mono ?_); rintro e w' ⟨rfl, ⟨nd, rfl⟩⟩) | (go_at_call 26; (with_reducible refine (supercargoref06_Name.calls k a0_3 false _ A10.out).mono ?_); rintro e w' ⟨rfl, ⟨nd, rfl⟩⟩))
            go_meet
            case rel => exact ⟨_, (true), (by first | rfl | (simp; done) | (simp [*]; done)), H', ⟨by first | omega | exact Nat.le_refl _⟩, ⟨by (with_reducible repeat (first | refine blk_drewN ?_ _ | refine blk_drew ?_ | refine blk_alloc ?_ _)); exact BK270.out⟩, ⟨by repeat (first | (with_reducible first | exact HB.out | apply below_alloc | apply pw_below_drewN | apply below_drew1 | refine below_set ?_ GE270.out) | exact HB.out)⟩⟩
        · replace c9 := Bool.eq_false_iff.mpr c9
          subst c9
          have H1 : (supercargoref38_May.j0 k true a0_0 a0_1 a0_2 a0_3 a0_4 a0_5 a0_6 a0_7 a0_8) = some r := by rw [if_neg (show ¬ (false = true) by decide)] at H; exact H
          clear H
          have H := H1
          clear H1
          have H' := Aside0.mk H
          clear H
          have hcz16_0 : w3.cell? ⟨gb270, 0, none⟩ = some (.string a0_0) := (blk_cell BK270.out 0).trans rfl
          have hcz16_1 : w3.cell? ⟨gb270, 1, none⟩ = some (.string a0_1) := (blk_cell BK270.out 1).trans rfl
          have hcz16_2 : w3.cell? ⟨gb270, 2, none⟩ = some (.string a0_2) := (blk_cell BK270.out 2).trans rfl
          have hcz16_3 : w3.cell? ⟨gb270, 3, none⟩ = some (.string a0_3) := (blk_cell BK270.out 3).trans rfl
          have hcz16_4 : w3.cell? ⟨gb270, 4, none⟩ = some (.string a0_4) := (blk_cell BK270.out 4).trans rfl
          have hcz16_5 : w3.cell? ⟨gb270, 5, none⟩ = some (.int .i64 a0_5) := (blk_cell BK270.out 5).trans rfl
          have hcz16_6 : w3.cell? ⟨gb270, 6, none⟩ = some (.int .i64 a0_6) := (blk_cell BK270.out 6).trans rfl
          have hcz16_7 : w3.cell? ⟨gb270, 7, none⟩ = some (.int .i64 a0_7) := (blk_cell BK270.out 7).trans rfl
          have hcz16_8 : w3.cell? ⟨gb270, 8, none⟩ = some (.int .i64 a0_8) := (blk_cell BK270.out 8).trans rfl
          have hfz16_0 := blk_frozen BK270.out 0
          have hfz16_1 := blk_frozen BK270.out 1
          have hfz16_2 := blk_frozen BK270.out 2
          have hfz16_3 := blk_frozen BK270.out 3
          have hfz16_4 := blk_frozen BK270.out 4
          have hfz16_5 := blk_frozen BK270.out 5
          have hfz16_6 := blk_frozen BK270.out 6
          have hfz16_7 := blk_frozen BK270.out 7
          have hfz16_8 := blk_frozen BK270.out 8
          go_wp2_with (first | ((with_reducible refine gate_callee (f := 26) rfl ?_); refine goesL_ (some 5) rfl rfl Tryz.func26 (by kernel_rfl) rfl #[.string a0_0] rfl (by (try simp only [List.map_toArray, List.map_cons, List.map_nil]); first | done | rfl | (simp only [List.length_drop, List.length_take]; rfl)) ?_; (with_reducible refine (supercargoref06_Name.calls k a0_0 true _ A4.out).mono ?_); rintro e w' ⟨rfl, ⟨nd, rfl⟩⟩; refine ⟨_, rfl, ?_⟩) | (go_at_call 26; (with_reducible refine (supercargoref06_Name.calls k a0_1 true _ A6.out).mono ?_); rintro e w' ⟨rfl, ⟨nd, rfl⟩⟩) | (go_at_call 26; (with_reducible refine (supercargoref06_Name.calls k a0_2 false _ A8.out).mono ?_); rintro e w' ⟨rfl, ⟨nd, rfl⟩⟩))
          go_meet
          case rel => exact ⟨_, (true), (by first | rfl | (simp; done) | (simp [*]; done)), H', ⟨by first | omega | exact Nat.le_refl _⟩, ⟨by (with_reducible repeat (first | refine blk_drewN ?_ _ | refine blk_drew ?_ | refine blk_alloc ?_ _)); exact BK270.out⟩, ⟨by repeat (first | (with_reducible first | exact HB.out | apply below_alloc | apply pw_below_drewN | apply below_drew1 | refine below_set ?_ GE270.out) | exact HB.out)⟩⟩
      · replace c7 := Bool.eq_false_iff.mpr c7
        subst c7
        have H1 : (supercargoref38_May.j0 k true a0_0 a0_1 a0_2 a0_3 a0_4 a0_5 a0_6 a0_7 a0_8) = some r := by rw [if_neg (show ¬ (false = true) by decide)] at H; exact H
        clear H
        have H := H1
        clear H1
        have H' := Aside0.mk H
        clear H
        have hcz17_0 : w3.cell? ⟨gb270, 0, none⟩ = some (.string a0_0) := (blk_cell BK270.out 0).trans rfl
        have hcz17_1 : w3.cell? ⟨gb270, 1, none⟩ = some (.string a0_1) := (blk_cell BK270.out 1).trans rfl
        have hcz17_2 : w3.cell? ⟨gb270, 2, none⟩ = some (.string a0_2) := (blk_cell BK270.out 2).trans rfl
        have hcz17_3 : w3.cell? ⟨gb270, 3, none⟩ = some (.string a0_3) := (blk_cell BK270.out 3).trans rfl
        have hcz17_4 : w3.cell? ⟨gb270, 4, none⟩ = some (.string a0_4) := (blk_cell BK270.out 4).trans rfl
        have hcz17_5 : w3.cell? ⟨gb270, 5, none⟩ = some (.int .i64 a0_5) := (blk_cell BK270.out 5).trans rfl
        have hcz17_6 : w3.cell? ⟨gb270, 6, none⟩ = some (.int .i64 a0_6) := (blk_cell BK270.out 6).trans rfl
        have hcz17_7 : w3.cell? ⟨gb270, 7, none⟩ = some (.int .i64 a0_7) := (blk_cell BK270.out 7).trans rfl
        have hcz17_8 : w3.cell? ⟨gb270, 8, none⟩ = some (.int .i64 a0_8) := (blk_cell BK270.out 8).trans rfl
        have hfz17_0 := blk_frozen BK270.out 0
        have hfz17_1 := blk_frozen BK270.out 1
        have hfz17_2 := blk_frozen BK270.out 2
        have hfz17_3 := blk_frozen BK270.out 3
        have hfz17_4 := blk_frozen BK270.out 4
        have hfz17_5 := blk_frozen BK270.out 5
        have hfz17_6 := blk_frozen BK270.out 6
        have hfz17_7 := blk_frozen BK270.out 7
        have hfz17_8 := blk_frozen BK270.out 8
        go_wp2_with (first | ((with_reducible refine gate_callee (f := 26) rfl ?_); refine goesL_ (some 5) rfl rfl Tryz.func26 (by kernel_rfl) rfl #[.string a0_0] rfl (by (try simp only [List.map_toArray, List.map_cons, List.map_nil]); first | done | rfl | (simp only [List.length_drop, List.length_take]; rfl)) ?_; (with_reducible refine (supercargoref06_Name.calls k a0_0 true _ A4.out).mono ?_); rintro e w' ⟨rfl, ⟨nd, rfl⟩⟩; refine ⟨_, rfl, ?_⟩) | (go_at_call 26; (with_reducible refine (supercargoref06_Name.calls k a0_1 false _ A6.out).mono ?_); rintro e w' ⟨rfl, ⟨nd, rfl⟩⟩))
        go_meet
        case rel => exact ⟨_, (true), (by first | rfl | (simp; done) | (simp [*]; done)), H', ⟨by first | omega | exact Nat.le_refl _⟩, ⟨by (with_reducible repeat (first | refine blk_drewN ?_ _ | refine blk_drew ?_ | refine blk_alloc ?_ _)); exact BK270.out⟩, ⟨by repeat (first | (with_reducible first | exact HB.out | apply below_alloc | apply pw_below_drewN | apply below_drew1 | refine below_set ?_ GE270.out) | exact HB.out)⟩⟩
    · replace c5 := Bool.eq_false_iff.mpr c5
      subst c5
      have H1 : (supercargoref38_May.j0 k true a0_0 a0_1 a0_2 a0_3 a0_4 a0_5 a0_6 a0_7 a0_8) = some r := by rw [if_neg (show ¬ (false = true) by decide)] at H; exact H
      clear H
      have H := H1
      clear H1
      have H' := Aside0.mk H
      clear H
      have hcz18_0 : w3.cell? ⟨gb270, 0, none⟩ = some (.string a0_0) := (blk_cell BK270.out 0).trans rfl
      have hcz18_1 : w3.cell? ⟨gb270, 1, none⟩ = some (.string a0_1) := (blk_cell BK270.out 1).trans rfl
      have hcz18_2 : w3.cell? ⟨gb270, 2, none⟩ = some (.string a0_2) := (blk_cell BK270.out 2).trans rfl
      have hcz18_3 : w3.cell? ⟨gb270, 3, none⟩ = some (.string a0_3) := (blk_cell BK270.out 3).trans rfl
      have hcz18_4 : w3.cell? ⟨gb270, 4, none⟩ = some (.string a0_4) := (blk_cell BK270.out 4).trans rfl
      have hcz18_5 : w3.cell? ⟨gb270, 5, none⟩ = some (.int .i64 a0_5) := (blk_cell BK270.out 5).trans rfl
      have hcz18_6 : w3.cell? ⟨gb270, 6, none⟩ = some (.int .i64 a0_6) := (blk_cell BK270.out 6).trans rfl
      have hcz18_7 : w3.cell? ⟨gb270, 7, none⟩ = some (.int .i64 a0_7) := (blk_cell BK270.out 7).trans rfl
      have hcz18_8 : w3.cell? ⟨gb270, 8, none⟩ = some (.int .i64 a0_8) := (blk_cell BK270.out 8).trans rfl
      have hfz18_0 := blk_frozen BK270.out 0
      have hfz18_1 := blk_frozen BK270.out 1
      have hfz18_2 := blk_frozen BK270.out 2
      have hfz18_3 := blk_frozen BK270.out 3
      have hfz18_4 := blk_frozen BK270.out 4
      have hfz18_5 := blk_frozen BK270.out 5
      have hfz18_6 := blk_frozen BK270.out 6
      have hfz18_7 := blk_frozen BK270.out 7
      have hfz18_8 := blk_frozen BK270.out 8
      go_wp2_with (first | ((with_reducible refine gate_callee (f := 26) rfl ?_); refine goesL_ (some 5) rfl rfl Tryz.func26 (by kernel_rfl) rfl #[.string a0_0] rfl (by (try simp only [List.map_toArray, List.map_cons, List.map_nil]); first | done | rfl | (simp only [List.length_drop, List.length_take]; rfl)) ?_; (with_reducible refine (supercargoref06_Name.calls k a0_0 false _ A4.out).mono ?_); rintro e w' ⟨rfl, ⟨nd, rfl⟩⟩; refine ⟨_, rfl, ?_⟩))
      go_meet
      case rel => exact ⟨_, (true), (by first | rfl | (simp; done) | (simp [*]; done)), H', ⟨by first | omega | exact Nat.le_refl _⟩, ⟨by (with_reducible repeat (first | refine blk_drewN ?_ _ | refine blk_drew ?_ | refine blk_alloc ?_ _)); exact BK270.out⟩, ⟨by repeat (first | (with_reducible first | exact HB.out | apply below_alloc | apply pw_below_drewN | apply below_drew1 | refine below_set ?_ GE270.out) | exact HB.out)⟩⟩
  case rest =>
    clear HC2
    try clear c1
    try clear c2
    try clear p2
    try clear c5
    try clear c7
    try clear c9
    try clear c11
    try clear c12
    try clear c12b0
    try clear c12b1
    try clear hcz13_0
    try clear hcz13_1
    try clear hcz13_2
    try clear hcz13_3
    try clear hcz13_4
    try clear hcz13_5
    try clear hcz13_6
    try clear hcz13_7
    try clear hcz13_8
    try clear hcz14_0
    try clear hcz14_1
    try clear hcz14_2
    try clear hcz14_3
    try clear hcz14_4
    try clear hcz14_5
    try clear hcz14_6
    try clear hcz14_7
    try clear hcz14_8
    try clear hcz15_0
    try clear hcz15_1
    try clear hcz15_2
    try clear hcz15_3
    try clear hcz15_4
    try clear hcz15_5
    try clear hcz15_6
    try clear hcz15_7
    try clear hcz15_8
    try clear hcz16_0
    try clear hcz16_1
    try clear hcz16_2
    try clear hcz16_3
    try clear hcz16_4
    try clear hcz16_5
    try clear hcz16_6
    try clear hcz16_7
    try clear hcz16_8
    try clear hcz17_0
    try clear hcz17_1
    try clear hcz17_2
    try clear hcz17_3
    try clear hcz17_4
    try clear hcz17_5
    try clear hcz17_6
    try clear hcz17_7
    try clear hcz17_8
    try clear hcz18_0
    try clear hcz18_1
    try clear hcz18_2
    try clear hcz18_3
    try clear hcz18_4
    try clear hcz18_5
    try clear hcz18_6
    try clear hcz18_7
    try clear hcz18_8
    try clear hfz13_0
    try clear hfz13_1
    try clear hfz13_2
    try clear hfz13_3
    try clear hfz13_4
    try clear hfz13_5
    try clear hfz13_6
    try clear hfz13_7
    try clear hfz13_8
    try clear hfz14_0
    try clear hfz14_1
    try clear hfz14_2
    try clear hfz14_3
    try clear hfz14_4
    try clear hfz14_5
    try clear hfz14_6
    try clear hfz14_7
    try clear hfz14_8
    try clear hfz15_0
    try clear hfz15_1
    try clear hfz15_2
    try clear hfz15_3
    try clear hfz15_4
    try clear hfz15_5
    try clear hfz15_6
    try clear hfz15_7
    try clear hfz15_8
    try clear hfz16_0
    try clear hfz16_1
    try clear hfz16_2
    try clear hfz16_3
    try clear hfz16_4
    try clear hfz16_5
    try clear hfz16_6
    try clear hfz16_7
    try clear hfz16_8
    try clear hfz17_0
    try clear hfz17_1
    try clear hfz17_2
    try clear hfz17_3
    try clear hfz17_4
    try clear hfz17_5
    try clear hfz17_6
    try clear hfz17_7
    try clear hfz17_8
    try clear hfz18_0
    try clear hfz18_1
    try clear hfz18_2
    try clear hfz18_3
    try clear hfz18_4
    try clear hfz18_5
    try clear hfz18_6
    try clear hfz18_7
    try clear hfz18_8
    obtain ⟨kq, x38_1, rfl, HA, HJ1, BK270, HB⟩ := hcut
    cases kq with
    | zero => exact absurd HA.out (by simp [supercargoref38_May.j0])
    | succ kj1 =>
      have H := HA.out
      clear HA
      simp only [supercargoref38_May.j0] at H
      by_cases c19 : x38_1 = true
      · subst c19
        have H1 : (some false) = some r := by rw [if_pos rfl] at H; exact H
        clear H
        have H := H1
        clear H1
        obtain rfl := Option.some.inj H
        go_wp2
        go_ret
        exact ⟨by first | rfl | (simp [errW_none, errW_some] <;> rfl) | (simp [*, errW_none, errW_some] <;> rfl), by repeat (first | (with_reducible first | exact HB.out | apply below_alloc | apply pw_below_drewN | apply below_drew1 | refine below_set ?_ GE270.out) | exact HB.out)⟩
      · replace c19 := Bool.eq_false_iff.mpr c19
        subst c19
        have H1 : ((supercargoref38_Money.f kj1 a0_4 a0_5).bind fun t275 => (if t275 = true then (if a0_8 < 0 then (supercargoref38_May.j1 kj1 true a0_0 a0_1 a0_2 a0_3 a0_4 a0_5 a0_6 a0_7 a0_8) else (supercargoref38_May.j1 kj1 (decide (a0_8 > 1048576)) a0_0 a0_1 a0_2 a0_3 a0_4 a0_5 a0_6 a0_7 a0_8)) else (supercargoref38_May.j1 kj1 true a0_0 a0_1 a0_2 a0_3 a0_4 a0_5 a0_6 a0_7 a0_8))) = some r := by rw [if_neg (show ¬ (false = true) by decide)] at H; exact H
        clear H
        have H := H1
        clear H1
        have HC20 := Aside0.mk H
        clear H
        go_upto_region 3 with (fail)
        go_cut [52] (fun v52 wc => ∃ (kq : Nat) (x52_19 : Bool), v52 = .bool x52_19 ∧ Aside0 (supercargoref38_May.j1 kq x52_19 a0_0 a0_1 a0_2 a0_3 a0_4 a0_5 a0_6 a0_7 a0_8 = some r) ∧ Aside0 (kq ≤ kj1) ∧ Aside0 (wc.heap[gb270]? = some (.cells #[.string a0_0, .string a0_1, .string a0_2, .string a0_3, .string a0_4, .int .i64 a0_5, .int .i64 a0_6, .int .i64 a0_7, .int .i64 a0_8] 28 (0, 0))) ∧ Aside0 (Below w.heap.size w wc))
        case first =>
          have H := HC20.out
          clear HC20
          replace H := Option.bind_eq_some_iff.mp H
          obtain ⟨t275, A210, H⟩ := H
          replace H : (if t275 = true then (if a0_8 < 0 then (supercargoref38_May.j1 kj1 true a0_0 a0_1 a0_2 a0_3 a0_4 a0_5 a0_6 a0_7 a0_8) else (supercargoref38_May.j1 kj1 (decide (a0_8 > 1048576)) a0_0 a0_1 a0_2 a0_3 a0_4 a0_5 a0_6 a0_7 a0_8)) else (supercargoref38_May.j1 kj1 true a0_0 a0_1 a0_2 a0_3 a0_4 a0_5 a0_6 a0_7 a0_8)) = some r := H
          have A21 := Aside0.mk A210
          clear A210
          by_cases c22 : t275 = true
          · subst c22
            have H1 : (if a0_8 < 0 then (supercargoref38_May.j1 kj1 true a0_0 a0_1 a0_2 a0_3 a0_4 a0_5 a0_6 a0_7 a0_8) else (supercargoref38_May.j1 kj1 (decide (a0_8 > 1048576)) a0_0 a0_1 a0_2 a0_3 a0_4 a0_5 a0_6 a0_7 a0_8)) = some r := by rw [if_pos rfl] at H; exact H
            clear H
            have H := H1
            clear H1
            by_cases c23 : a0_8 < 0
            · rw [if_pos c23] at H
              have c23b0 : decide (a0_8 < 0) = true := decide_eq_true c23
              clear c23
              (first | rw [c23b0] | (simp only [i64_w, i32_w]; rw [c23b0]) | skip)
              have H' := Aside0.mk H
              clear H
              have hcz24_0 : wc.cell? ⟨gb270, 0, none⟩ = some (.string a0_0) := (blk_cell BK270.out 0).trans rfl
              have hcz24_1 : wc.cell? ⟨gb270, 1, none⟩ = some (.string a0_1) := (blk_cell BK270.out 1).trans rfl
              have hcz24_2 : wc.cell? ⟨gb270, 2, none⟩ = some (.string a0_2) := (blk_cell BK270.out 2).trans rfl
              have hcz24_3 : wc.cell? ⟨gb270, 3, none⟩ = some (.string a0_3) := (blk_cell BK270.out 3).trans rfl
              have hcz24_4 : wc.cell? ⟨gb270, 4, none⟩ = some (.string a0_4) := (blk_cell BK270.out 4).trans rfl
              have hcz24_5 : wc.cell? ⟨gb270, 5, none⟩ = some (.int .i64 a0_5) := (blk_cell BK270.out 5).trans rfl
              have hcz24_6 : wc.cell? ⟨gb270, 6, none⟩ = some (.int .i64 a0_6) := (blk_cell BK270.out 6).trans rfl
              have hcz24_7 : wc.cell? ⟨gb270, 7, none⟩ = some (.int .i64 a0_7) := (blk_cell BK270.out 7).trans rfl
              have hcz24_8 : wc.cell? ⟨gb270, 8, none⟩ = some (.int .i64 a0_8) := (blk_cell BK270.out 8).trans rfl
              have hfz24_0 := blk_frozen BK270.out 0
              have hfz24_1 := blk_frozen BK270.out 1
              have hfz24_2 := blk_frozen BK270.out 2
              have hfz24_3 := blk_frozen BK270.out 3
              have hfz24_4 := blk_frozen BK270.out 4
              have hfz24_5 := blk_frozen BK270.out 5
              have hfz24_6 := blk_frozen BK270.out 6
              have hfz24_7 := blk_frozen BK270.out 7
              have hfz24_8 := blk_frozen BK270.out 8
              go_wp2_with (first | ((with_reducible refine gate_callee (f := 27) rfl ?_); refine goesL_ (some 41) rfl rfl Tryz.func27 (by kernel_rfl) rfl #[.agg #[.string a0_4, .int .i64 a0_5]] rfl (by (try simp only [List.map_toArray, List.map_cons, List.map_nil]); first | done | rfl | (simp only [List.length_drop, List.length_take]; rfl)) ?_; (with_reducible refine (supercargoref38_Money.calls kj1 a0_4 a0_5 true _ A21.out).mono ?_); rintro e w25 ⟨rfl, hb⟩; refine ⟨_, rfl, ?_⟩; have n0_ := Aside0.mk (blk_below (g := gb270) (o := .cells #[.string a0_0, .string a0_1, .string a0_2, .string a0_3, .string a0_4, .int .i64 a0_5, .int .i64 a0_6, .int .i64 a0_7, .int .i64 a0_8] 28 (0, 0)) (by (with_reducible repeat (first | refine blk_drewN ?_ _ | refine blk_drew ?_ | refine blk_alloc ?_ _)); exact BK270.out) hb); have n1_ := Aside0.mk (below_step (by repeat (first | (with_reducible first | exact HB.out | apply below_alloc | apply pw_below_drewN | apply below_drew1 | refine below_set ?_ GE270.out) | exact HB.out)) hb); clear BK270; clear HB; have BK270 := n0_; have HB := n1_; clear n0_ n1_; (try clear hb); (try clear hb2); (try clear hk); (try clear hi); have hcz26_0 : w25.cell? ⟨gb270, 0, none⟩ = some (.string a0_0) := (blk_cell BK270.out 0).trans rfl; have hcz26_1 : w25.cell? ⟨gb270, 1, none⟩ = some (.string a0_1) := (blk_cell BK270.out 1).trans rfl; have hcz26_2 : w25.cell? ⟨gb270, 2, none⟩ = some (.string a0_2) := (blk_cell BK270.out 2).trans rfl; have hcz26_3 : w25.cell? ⟨gb270, 3, none⟩ = some (.string a0_3) := (blk_cell BK270.out 3).trans rfl; have hcz26_4 : w25.cell? ⟨gb270, 4, none⟩ = some (.string a0_4) := (blk_cell BK270.out 4).trans rfl; have hcz26_5 : w25.cell? ⟨gb270, 5, none⟩ = some (.int .i64 a0_5) := (blk_cell BK270.out 5).trans rfl; have hcz26_6 : w25.cell? ⟨gb270, 6, none⟩ = some (.int .i64 a0_6) := (blk_cell BK270.out 6).trans rfl; have hcz26_7 : w25.cell? ⟨gb270, 7, none⟩ = some (.int .i64 a0_7) := (blk_cell BK270.out 7).trans rfl; have hcz26_8 : w25.cell? ⟨gb270, 8, none⟩ = some (.int .i64 a0_8) := (blk_cell BK270.out 8).trans rfl; have hfz26_0 := blk_frozen BK270.out 0; have hfz26_1 := blk_frozen BK270.out 1; have hfz26_2 := blk_frozen BK270.out 2; have hfz26_3 := blk_frozen BK270.out 3; have hfz26_4 := blk_frozen BK270.out 4; have hfz26_5 := blk_frozen BK270.out 5; have hfz26_6 := blk_frozen BK270.out 6; have hfz26_7 := blk_frozen BK270.out 7; have hfz26_8 := blk_frozen BK270.out 8))
              go_meet
              case rel => exact ⟨_, (true), (by first | rfl | (simp; done) | (simp [*]; done)), H', ⟨by have := HJ1.out; first | omega | exact Nat.le_refl _⟩, ⟨by (with_reducible repeat (first | refine blk_drewN ?_ _ | refine blk_drew ?_ | refine blk_alloc ?_ _)); exact BK270.out⟩, ⟨by repeat (first | (with_reducible first | exact HB.out | apply below_alloc | apply pw_below_drewN | apply below_drew1 | refine below_set ?_ GE270.out) | exact HB.out)⟩⟩
            · rw [if_neg c23] at H
              have c23b0 : decide (a0_8 < 0) = false := decide_eq_false c23
              clear c23
              (first | rw [c23b0] | (simp only [i64_w, i32_w]; rw [c23b0]) | skip)
              have H' := Aside0.mk H
              clear H
              have hcz27_0 : wc.cell? ⟨gb270, 0, none⟩ = some (.string a0_0) := (blk_cell BK270.out 0).trans rfl
              have hcz27_1 : wc.cell? ⟨gb270, 1, none⟩ = some (.string a0_1) := (blk_cell BK270.out 1).trans rfl
              have hcz27_2 : wc.cell? ⟨gb270, 2, none⟩ = some (.string a0_2) := (blk_cell BK270.out 2).trans rfl
              have hcz27_3 : wc.cell? ⟨gb270, 3, none⟩ = some (.string a0_3) := (blk_cell BK270.out 3).trans rfl
              have hcz27_4 : wc.cell? ⟨gb270, 4, none⟩ = some (.string a0_4) := (blk_cell BK270.out 4).trans rfl
              have hcz27_5 : wc.cell? ⟨gb270, 5, none⟩ = some (.int .i64 a0_5) := (blk_cell BK270.out 5).trans rfl
              have hcz27_6 : wc.cell? ⟨gb270, 6, none⟩ = some (.int .i64 a0_6) := (blk_cell BK270.out 6).trans rfl
              have hcz27_7 : wc.cell? ⟨gb270, 7, none⟩ = some (.int .i64 a0_7) := (blk_cell BK270.out 7).trans rfl
              have hcz27_8 : wc.cell? ⟨gb270, 8, none⟩ = some (.int .i64 a0_8) := (blk_cell BK270.out 8).trans rfl
              have hfz27_0 := blk_frozen BK270.out 0
              have hfz27_1 := blk_frozen BK270.out 1
              have hfz27_2 := blk_frozen BK270.out 2
              have hfz27_3 := blk_frozen BK270.out 3
              have hfz27_4 := blk_frozen BK270.out 4
              have hfz27_5 := blk_frozen BK270.out 5
              have hfz27_6 := blk_frozen BK270.out 6
              have hfz27_7 := blk_frozen BK270.out 7
              have hfz27_8 := blk_frozen BK270.out 8
              go_wp2_with (first | ((with_reducible refine gate_callee (f := 27) rfl ?_); refine goesL_ (some 41) rfl rfl Tryz.func27 (by kernel_rfl) rfl #[.agg #[.string a0_4, .int .i64 a0_5]] rfl (by (try simp only [List.map_toArray, List.map_cons, List.map_nil]); first | done | rfl | (simp only [List.length_drop, List.length_take]; rfl)) ?_; (with_reducible refine (supercargoref38_Money.calls kj1 a0_4 a0_5 true _ A21.out).mono ?_); rintro e w28 ⟨rfl, hb⟩; refine ⟨_, rfl, ?_⟩; have n0_ := Aside0.mk (blk_below (g := gb270) (o := .cells #[.string a0_0, .string a0_1, .string a0_2, .string a0_3, .string a0_4, .int .i64 a0_5, .int .i64 a0_6, .int .i64 a0_7, .int .i64 a0_8] 28 (0, 0)) (by (with_reducible repeat (first | refine blk_drewN ?_ _ | refine blk_drew ?_ | refine blk_alloc ?_ _)); exact BK270.out) hb); have n1_ := Aside0.mk (below_step (by repeat (first | (with_reducible first | exact HB.out | apply below_alloc | apply pw_below_drewN | apply below_drew1 | refine below_set ?_ GE270.out) | exact HB.out)) hb); clear BK270; clear HB; have BK270 := n0_; have HB := n1_; clear n0_ n1_; (try clear hb); (try clear hb2); (try clear hk); (try clear hi); have hcz29_0 : w28.cell? ⟨gb270, 0, none⟩ = some (.string a0_0) := (blk_cell BK270.out 0).trans rfl; have hcz29_1 : w28.cell? ⟨gb270, 1, none⟩ = some (.string a0_1) := (blk_cell BK270.out 1).trans rfl; have hcz29_2 : w28.cell? ⟨gb270, 2, none⟩ = some (.string a0_2) := (blk_cell BK270.out 2).trans rfl; have hcz29_3 : w28.cell? ⟨gb270, 3, none⟩ = some (.string a0_3) := (blk_cell BK270.out 3).trans rfl; have hcz29_4 : w28.cell? ⟨gb270, 4, none⟩ = some (.string a0_4) := (blk_cell BK270.out 4).trans rfl; have hcz29_5 : w28.cell? ⟨gb270, 5, none⟩ = some (.int .i64 a0_5) := (blk_cell BK270.out 5).trans rfl; have hcz29_6 : w28.cell? ⟨gb270, 6, none⟩ = some (.int .i64 a0_6) := (blk_cell BK270.out 6).trans rfl; have hcz29_7 : w28.cell? ⟨gb270, 7, none⟩ = some (.int .i64 a0_7) := (blk_cell BK270.out 7).trans rfl; have hcz29_8 : w28.cell? ⟨gb270, 8, none⟩ = some (.int .i64 a0_8) := (blk_cell BK270.out 8).trans rfl; have hfz29_0 := blk_frozen BK270.out 0; have hfz29_1 := blk_frozen BK270.out 1; have hfz29_2 := blk_frozen BK270.out 2; have hfz29_3 := blk_frozen BK270.out 3; have hfz29_4 := blk_frozen BK270.out 4; have hfz29_5 := blk_frozen BK270.out 5; have hfz29_6 := blk_frozen BK270.out 6; have hfz29_7 := blk_frozen BK270.out 7; have hfz29_8 := blk_frozen BK270.out 8))
              go_meet
              case rel => exact ⟨_, (decide (a0_8 > 1048576)), (by first | rfl | (simp; done) | (simp [*]; done)), H', ⟨by have := HJ1.out; first | omega | exact Nat.le_refl _⟩, ⟨by (with_reducible repeat (first | refine blk_drewN ?_ _ | refine blk_drew ?_ | refine blk_alloc ?_ _)); exact BK270.out⟩, ⟨by repeat (first | (with_reducible first | exact HB.out | apply below_alloc | apply pw_below_drewN | apply below_drew1 | refine below_set ?_ GE270.out) | exact HB.out)⟩⟩
          · replace c22 := Bool.eq_false_iff.mpr c22
            subst c22
            have H1 : (supercargoref38_May.j1 kj1 true a0_0 a0_1 a0_2 a0_3 a0_4 a0_5 a0_6 a0_7 a0_8) = some r := by rw [if_neg (show ¬ (false = true) by decide)] at H; exact H
            clear H
            have H := H1
            clear H1
            have H' := Aside0.mk H
            clear H
            have hcz30_0 : wc.cell? ⟨gb270, 0, none⟩ = some (.string a0_0) := (blk_cell BK270.out 0).trans rfl
            have hcz30_1 : wc.cell? ⟨gb270, 1, none⟩ = some (.string a0_1) := (blk_cell BK270.out 1).trans rfl
            have hcz30_2 : wc.cell? ⟨gb270, 2, none⟩ = some (.string a0_2) := (blk_cell BK270.out 2).trans rfl
            have hcz30_3 : wc.cell? ⟨gb270, 3, none⟩ = some (.string a0_3) := (blk_cell BK270.out 3).trans rfl
            have hcz30_4 : wc.cell? ⟨gb270, 4, none⟩ = some (.string a0_4) := (blk_cell BK270.out 4).trans rfl
            have hcz30_5 : wc.cell? ⟨gb270, 5, none⟩ = some (.int .i64 a0_5) := (blk_cell BK270.out 5).trans rfl
            have hcz30_6 : wc.cell? ⟨gb270, 6, none⟩ = some (.int .i64 a0_6) := (blk_cell BK270.out 6).trans rfl
            have hcz30_7 : wc.cell? ⟨gb270, 7, none⟩ = some (.int .i64 a0_7) := (blk_cell BK270.out 7).trans rfl
            have hcz30_8 : wc.cell? ⟨gb270, 8, none⟩ = some (.int .i64 a0_8) := (blk_cell BK270.out 8).trans rfl
            have hfz30_0 := blk_frozen BK270.out 0
            have hfz30_1 := blk_frozen BK270.out 1
            have hfz30_2 := blk_frozen BK270.out 2
            have hfz30_3 := blk_frozen BK270.out 3
            have hfz30_4 := blk_frozen BK270.out 4
            have hfz30_5 := blk_frozen BK270.out 5
            have hfz30_6 := blk_frozen BK270.out 6
            have hfz30_7 := blk_frozen BK270.out 7
            have hfz30_8 := blk_frozen BK270.out 8
            go_wp2_with (first | ((with_reducible refine gate_callee (f := 27) rfl ?_); refine goesL_ (some 41) rfl rfl Tryz.func27 (by kernel_rfl) rfl #[.agg #[.string a0_4, .int .i64 a0_5]] rfl (by (try simp only [List.map_toArray, List.map_cons, List.map_nil]); first | done | rfl | (simp only [List.length_drop, List.length_take]; rfl)) ?_; (with_reducible refine (supercargoref38_Money.calls kj1 a0_4 a0_5 false _ A21.out).mono ?_); rintro e w31 ⟨rfl, hb⟩; refine ⟨_, rfl, ?_⟩; have n0_ := Aside0.mk (blk_below (g := gb270) (o := .cells #[.string a0_0, .string a0_1, .string a0_2, .string a0_3, .string a0_4, .int .i64 a0_5, .int .i64 a0_6, .int .i64 a0_7, .int .i64 a0_8] 28 (0, 0)) (by (with_reducible repeat (first | refine blk_drewN ?_ _ | refine blk_drew ?_ | refine blk_alloc ?_ _)); exact BK270.out) hb); have n1_ := Aside0.mk (below_step (by repeat (first | (with_reducible first | exact HB.out | apply below_alloc | apply pw_below_drewN | apply below_drew1 | refine below_set ?_ GE270.out) | exact HB.out)) hb); clear BK270; clear HB; have BK270 := n0_; have HB := n1_; clear n0_ n1_; (try clear hb); (try clear hb2); (try clear hk); (try clear hi)))
            go_meet
            case rel => exact ⟨_, (true), (by first | rfl | (simp; done) | (simp [*]; done)), H', ⟨by have := HJ1.out; first | omega | exact Nat.le_refl _⟩, ⟨by (with_reducible repeat (first | refine blk_drewN ?_ _ | refine blk_drew ?_ | refine blk_alloc ?_ _)); exact BK270.out⟩, ⟨by repeat (first | (with_reducible first | exact HB.out | apply below_alloc | apply pw_below_drewN | apply below_drew1 | refine below_set ?_ GE270.out) | exact HB.out)⟩⟩
        case rest =>
          clear HC20
          try clear c1
          try clear c2
          try clear p2
          try clear c5
          try clear c7
          try clear c9
          try clear c11
          try clear c12
          try clear c12b0
          try clear c12b1
          try clear c19
          try clear c22
          try clear c23
          try clear c23b0
          try clear c26
          try clear c27
          try clear hcz13_0
          try clear hcz13_1
          try clear hcz13_2
          try clear hcz13_3
          try clear hcz13_4
          try clear hcz13_5
          try clear hcz13_6
          try clear hcz13_7
          try clear hcz13_8
          try clear hcz14_0
          try clear hcz14_1
          try clear hcz14_2
          try clear hcz14_3
          try clear hcz14_4
          try clear hcz14_5
          try clear hcz14_6
          try clear hcz14_7
          try clear hcz14_8
          try clear hcz15_0
          try clear hcz15_1
          try clear hcz15_2
          try clear hcz15_3
          try clear hcz15_4
          try clear hcz15_5
          try clear hcz15_6
          try clear hcz15_7
          try clear hcz15_8
          try clear hcz16_0
          try clear hcz16_1
          try clear hcz16_2
          try clear hcz16_3
          try clear hcz16_4
          try clear hcz16_5
          try clear hcz16_6
          try clear hcz16_7
          try clear hcz16_8
          try clear hcz17_0
          try clear hcz17_1
          try clear hcz17_2
          try clear hcz17_3
          try clear hcz17_4
          try clear hcz17_5
          try clear hcz17_6
          try clear hcz17_7
          try clear hcz17_8
          try clear hcz18_0
          try clear hcz18_1
          try clear hcz18_2
          try clear hcz18_3
          try clear hcz18_4
          try clear hcz18_5
          try clear hcz18_6
          try clear hcz18_7
          try clear hcz18_8
          try clear hcz24_0
          try clear hcz24_1
          try clear hcz24_2
          try clear hcz24_3
          try clear hcz24_4
          try clear hcz24_5
          try clear hcz24_6
          try clear hcz24_7
          try clear hcz24_8
          try clear hcz26_0
          try clear hcz26_1
          try clear hcz26_2
          try clear hcz26_3
          try clear hcz26_4
          try clear hcz26_5
          try clear hcz26_6
          try clear hcz26_7
          try clear hcz26_8
          try clear hcz27_0
          try clear hcz27_1
          try clear hcz27_2
          try clear hcz27_3
          try clear hcz27_4
          try clear hcz27_5
          try clear hcz27_6
          try clear hcz27_7
          try clear hcz27_8
          try clear hcz29_0
          try clear hcz29_1
          try clear hcz29_2
          try clear hcz29_3
          try clear hcz29_4
          try clear hcz29_5
          try clear hcz29_6
          try clear hcz29_7
          try clear hcz29_8
          try clear hcz30_0
          try clear hcz30_1
          try clear hcz30_2
          try clear hcz30_3
          try clear hcz30_4
          try clear hcz30_5
          try clear hcz30_6
          try clear hcz30_7
          try clear hcz30_8
          try clear hfz13_0
          try clear hfz13_1
          try clear hfz13_2
          try clear hfz13_3
          try clear hfz13_4
          try clear hfz13_5
          try clear hfz13_6
          try clear hfz13_7
          try clear hfz13_8
          try clear hfz14_0
          try clear hfz14_1
          try clear hfz14_2
          try clear hfz14_3
          try clear hfz14_4
          try clear hfz14_5
          try clear hfz14_6
          try clear hfz14_7
          try clear hfz14_8
          try clear hfz15_0
          try clear hfz15_1
          try clear hfz15_2
          try clear hfz15_3
          try clear hfz15_4
          try clear hfz15_5
          try clear hfz15_6
          try clear hfz15_7
          try clear hfz15_8
          try clear hfz16_0
          try clear hfz16_1
          try clear hfz16_2
          try clear hfz16_3
          try clear hfz16_4
          try clear hfz16_5
          try clear hfz16_6
          try clear hfz16_7
          try clear hfz16_8
          try clear hfz17_0
          try clear hfz17_1
          try clear hfz17_2
          try clear hfz17_3
          try clear hfz17_4
          try clear hfz17_5
          try clear hfz17_6
          try clear hfz17_7
          try clear hfz17_8
          try clear hfz18_0
          try clear hfz18_1
          try clear hfz18_2
          try clear hfz18_3
          try clear hfz18_4
          try clear hfz18_5
          try clear hfz18_6
          try clear hfz18_7
          try clear hfz18_8
          try clear hfz24_0
          try clear hfz24_1
          try clear hfz24_2
          try clear hfz24_3
          try clear hfz24_4
          try clear hfz24_5
          try clear hfz24_6
          try clear hfz24_7
          try clear hfz24_8
          try clear hfz26_0
          try clear hfz26_1
          try clear hfz26_2
          try clear hfz26_3
          try clear hfz26_4
          try clear hfz26_5
          try clear hfz26_6
          try clear hfz26_7
          try clear hfz26_8
          try clear hfz27_0
          try clear hfz27_1
          try clear hfz27_2
          try clear hfz27_3
          try clear hfz27_4
          try clear hfz27_5
          try clear hfz27_6
          try clear hfz27_7
          try clear hfz27_8
          try clear hfz29_0
          try clear hfz29_1
          try clear hfz29_2
          try clear hfz29_3
          try clear hfz29_4
          try clear hfz29_5
          try clear hfz29_6
          try clear hfz29_7
          try clear hfz29_8
          try clear hfz30_0
          try clear hfz30_1
          try clear hfz30_2
          try clear hfz30_3
          try clear hfz30_4
          try clear hfz30_5
          try clear hfz30_6
          try clear hfz30_7
          try clear hfz30_8
          try clear p2
          obtain ⟨kq, x52_19, rfl, HA, HJ19, BK270, HB⟩ := hcut
          cases kq with
          | zero => exact absurd HA.out (by simp [supercargoref38_May.j1])
          | succ kj19 =>
            have H := HA.out
            clear HA
            simp only [supercargoref38_May.j1] at H
            by_cases c32 : x52_19 = true
            · subst c32
              have H1 : (some false) = some r := by rw [if_pos rfl] at H; exact H
              clear H
              have H := H1
              clear H1
              obtain rfl := Option.some.inj H
              go_wp2
              go_ret
              exact ⟨by first | rfl | (simp [errW_none, errW_some] <;> rfl) | (simp [*, errW_none, errW_some] <;> rfl), by repeat (first | (with_reducible first | exact HB.out | apply below_alloc | apply pw_below_drewN | apply below_drew1 | refine below_set ?_ GE270.out) | exact HB.out)⟩
            · replace c32 := Bool.eq_false_iff.mpr c32
              subst c32
              have H1 : (if a0_6 = 0 then (some (a0_7 == 0)) else (if a0_6 = 1 then (if a0_7 ≥ 1 then (some (decide (a0_7 ≤ 1000))) else (some false)) else (if a0_6 = 2 then (if a0_7 ≥ 1 then (some (decide (a0_7 ≤ 1000))) else (some false)) else (some false)))) = some r := by rw [if_neg (show ¬ (false = true) by decide)] at H; exact H
              clear H
              have H := H1
              clear H1
              by_cases c33 : a0_6 = 0
              · rw [if_pos c33] at H
                have c33b0 : (a0_6 == 0) = true := beq_iff_eq.mpr c33
                have c33b1 : (a0_6 != 0) = false := bne_eq_false_iff_eq.mpr c33
                clear c33
                obtain rfl := Option.some.inj H
                have hcz34_0 : wc.cell? ⟨gb270, 0, none⟩ = some (.string a0_0) := (blk_cell BK270.out 0).trans rfl
                have hcz34_1 : wc.cell? ⟨gb270, 1, none⟩ = some (.string a0_1) := (blk_cell BK270.out 1).trans rfl
                have hcz34_2 : wc.cell? ⟨gb270, 2, none⟩ = some (.string a0_2) := (blk_cell BK270.out 2).trans rfl
                have hcz34_3 : wc.cell? ⟨gb270, 3, none⟩ = some (.string a0_3) := (blk_cell BK270.out 3).trans rfl
                have hcz34_4 : wc.cell? ⟨gb270, 4, none⟩ = some (.string a0_4) := (blk_cell BK270.out 4).trans rfl
                have hcz34_5 : wc.cell? ⟨gb270, 5, none⟩ = some (.int .i64 a0_5) := (blk_cell BK270.out 5).trans rfl
                have hcz34_6 : wc.cell? ⟨gb270, 6, none⟩ = some (.int .i64 a0_6) := (blk_cell BK270.out 6).trans rfl
                have hcz34_7 : wc.cell? ⟨gb270, 7, none⟩ = some (.int .i64 a0_7) := (blk_cell BK270.out 7).trans rfl
                have hcz34_8 : wc.cell? ⟨gb270, 8, none⟩ = some (.int .i64 a0_8) := (blk_cell BK270.out 8).trans rfl
                have hfz34_0 := blk_frozen BK270.out 0
                have hfz34_1 := blk_frozen BK270.out 1
                have hfz34_2 := blk_frozen BK270.out 2
                have hfz34_3 := blk_frozen BK270.out 3
                have hfz34_4 := blk_frozen BK270.out 4
                have hfz34_5 := blk_frozen BK270.out 5
                have hfz34_6 := blk_frozen BK270.out 6
                have hfz34_7 := blk_frozen BK270.out 7
                have hfz34_8 := blk_frozen BK270.out 8
                go_wp2
                go_ret
                exact ⟨by first | rfl | (simp [errW_none, errW_some] <;> rfl) | (simp [*, errW_none, errW_some] <;> rfl), by repeat (first | (with_reducible first | exact HB.out | apply below_alloc | apply pw_below_drewN | apply below_drew1 | refine below_set ?_ GE270.out) | exact HB.out)⟩
              · rw [if_neg c33] at H
                have c33b0 : (a0_6 == 0) = false := beq_eq_false_iff_ne.mpr c33
                have c33b1 : (a0_6 != 0) = true := bne_iff_ne.mpr c33
                by_cases c35 : a0_6 = 1
                · rw [if_pos c35] at H
                  have c35b0 : (a0_6 == 1) = true := beq_iff_eq.mpr c35
                  have c35b1 : (a0_6 != 1) = false := bne_eq_false_iff_eq.mpr c35
                  clear c35
                  by_cases c36 : a0_7 ≥ 1
                  · rw [if_pos c36] at H
                    have c36b0 : decide (1 ≤ a0_7) = true := decide_eq_true c36
                    clear c36
                    obtain rfl := Option.some.inj H
                    have hcz37_0 : wc.cell? ⟨gb270, 0, none⟩ = some (.string a0_0) := (blk_cell BK270.out 0).trans rfl
                    have hcz37_1 : wc.cell? ⟨gb270, 1, none⟩ = some (.string a0_1) := (blk_cell BK270.out 1).trans rfl
                    have hcz37_2 : wc.cell? ⟨gb270, 2, none⟩ = some (.string a0_2) := (blk_cell BK270.out 2).trans rfl
                    have hcz37_3 : wc.cell? ⟨gb270, 3, none⟩ = some (.string a0_3) := (blk_cell BK270.out 3).trans rfl
                    have hcz37_4 : wc.cell? ⟨gb270, 4, none⟩ = some (.string a0_4) := (blk_cell BK270.out 4).trans rfl
                    have hcz37_5 : wc.cell? ⟨gb270, 5, none⟩ = some (.int .i64 a0_5) := (blk_cell BK270.out 5).trans rfl
                    have hcz37_6 : wc.cell? ⟨gb270, 6, none⟩ = some (.int .i64 a0_6) := (blk_cell BK270.out 6).trans rfl
                    have hcz37_7 : wc.cell? ⟨gb270, 7, none⟩ = some (.int .i64 a0_7) := (blk_cell BK270.out 7).trans rfl
                    have hcz37_8 : wc.cell? ⟨gb270, 8, none⟩ = some (.int .i64 a0_8) := (blk_cell BK270.out 8).trans rfl
                    have hfz37_0 := blk_frozen BK270.out 0
                    have hfz37_1 := blk_frozen BK270.out 1
                    have hfz37_2 := blk_frozen BK270.out 2
                    have hfz37_3 := blk_frozen BK270.out 3
                    have hfz37_4 := blk_frozen BK270.out 4
                    have hfz37_5 := blk_frozen BK270.out 5
                    have hfz37_6 := blk_frozen BK270.out 6
                    have hfz37_7 := blk_frozen BK270.out 7
                    have hfz37_8 := blk_frozen BK270.out 8
                    go_wp2
                    go_ret
                    exact ⟨by first | rfl | (simp [errW_none, errW_some] <;> rfl) | (simp [*, errW_none, errW_some] <;> rfl), by repeat (first | (with_reducible first | exact HB.out | apply below_alloc | apply pw_below_drewN | apply below_drew1 | refine below_set ?_ GE270.out) | exact HB.out)⟩
                  · rw [if_neg c36] at H
                    have c36b0 : decide (1 ≤ a0_7) = false := decide_eq_false c36
                    clear c36
                    obtain rfl := Option.some.inj H
                    have hcz38_0 : wc.cell? ⟨gb270, 0, none⟩ = some (.string a0_0) := (blk_cell BK270.out 0).trans rfl
                    have hcz38_1 : wc.cell? ⟨gb270, 1, none⟩ = some (.string a0_1) := (blk_cell BK270.out 1).trans rfl
                    have hcz38_2 : wc.cell? ⟨gb270, 2, none⟩ = some (.string a0_2) := (blk_cell BK270.out 2).trans rfl
                    have hcz38_3 : wc.cell? ⟨gb270, 3, none⟩ = some (.string a0_3) := (blk_cell BK270.out 3).trans rfl
                    have hcz38_4 : wc.cell? ⟨gb270, 4, none⟩ = some (.string a0_4) := (blk_cell BK270.out 4).trans rfl
                    have hcz38_5 : wc.cell? ⟨gb270, 5, none⟩ = some (.int .i64 a0_5) := (blk_cell BK270.out 5).trans rfl
                    have hcz38_6 : wc.cell? ⟨gb270, 6, none⟩ = some (.int .i64 a0_6) := (blk_cell BK270.out 6).trans rfl
                    have hcz38_7 : wc.cell? ⟨gb270, 7, none⟩ = some (.int .i64 a0_7) := (blk_cell BK270.out 7).trans rfl
                    have hcz38_8 : wc.cell? ⟨gb270, 8, none⟩ = some (.int .i64 a0_8) := (blk_cell BK270.out 8).trans rfl
                    have hfz38_0 := blk_frozen BK270.out 0
                    have hfz38_1 := blk_frozen BK270.out 1
                    have hfz38_2 := blk_frozen BK270.out 2
                    have hfz38_3 := blk_frozen BK270.out 3
                    have hfz38_4 := blk_frozen BK270.out 4
                    have hfz38_5 := blk_frozen BK270.out 5
                    have hfz38_6 := blk_frozen BK270.out 6
                    have hfz38_7 := blk_frozen BK270.out 7
                    have hfz38_8 := blk_frozen BK270.out 8
                    go_wp2
                    go_ret
                    exact ⟨by first | rfl | (simp [errW_none, errW_some] <;> rfl) | (simp [*, errW_none, errW_some] <;> rfl), by repeat (first | (with_reducible first | exact HB.out | apply below_alloc | apply pw_below_drewN | apply below_drew1 | refine below_set ?_ GE270.out) | exact HB.out)⟩
                · rw [if_neg c35] at H
                  have c35b0 : (a0_6 == 1) = false := beq_eq_false_iff_ne.mpr c35
                  have c35b1 : (a0_6 != 1) = true := bne_iff_ne.mpr c35
                  by_cases c39 : a0_6 = 2
                  · rw [if_pos c39] at H
                    have c39b0 : (a0_6 == 2) = true := beq_iff_eq.mpr c39
                    have c39b1 : (a0_6 != 2) = false := bne_eq_false_iff_eq.mpr c39
                    clear c39
                    by_cases c40 : a0_7 ≥ 1
                    · rw [if_pos c40] at H
                      have c40b0 : decide (1 ≤ a0_7) = true := decide_eq_true c40
                      clear c40
                      obtain rfl := Option.some.inj H
                      have hcz41_0 : wc.cell? ⟨gb270, 0, none⟩ = some (.string a0_0) := (blk_cell BK270.out 0).trans rfl
                      have hcz41_1 : wc.cell? ⟨gb270, 1, none⟩ = some (.string a0_1) := (blk_cell BK270.out 1).trans rfl
                      have hcz41_2 : wc.cell? ⟨gb270, 2, none⟩ = some (.string a0_2) := (blk_cell BK270.out 2).trans rfl
                      have hcz41_3 : wc.cell? ⟨gb270, 3, none⟩ = some (.string a0_3) := (blk_cell BK270.out 3).trans rfl
                      have hcz41_4 : wc.cell? ⟨gb270, 4, none⟩ = some (.string a0_4) := (blk_cell BK270.out 4).trans rfl
                      have hcz41_5 : wc.cell? ⟨gb270, 5, none⟩ = some (.int .i64 a0_5) := (blk_cell BK270.out 5).trans rfl
                      have hcz41_6 : wc.cell? ⟨gb270, 6, none⟩ = some (.int .i64 a0_6) := (blk_cell BK270.out 6).trans rfl
                      have hcz41_7 : wc.cell? ⟨gb270, 7, none⟩ = some (.int .i64 a0_7) := (blk_cell BK270.out 7).trans rfl
                      have hcz41_8 : wc.cell? ⟨gb270, 8, none⟩ = some (.int .i64 a0_8) := (blk_cell BK270.out 8).trans rfl
                      have hfz41_0 := blk_frozen BK270.out 0
                      have hfz41_1 := blk_frozen BK270.out 1
                      have hfz41_2 := blk_frozen BK270.out 2
                      have hfz41_3 := blk_frozen BK270.out 3
                      have hfz41_4 := blk_frozen BK270.out 4
                      have hfz41_5 := blk_frozen BK270.out 5
                      have hfz41_6 := blk_frozen BK270.out 6
                      have hfz41_7 := blk_frozen BK270.out 7
                      have hfz41_8 := blk_frozen BK270.out 8
                      go_wp2
                      go_ret
                      exact ⟨by first | rfl | (simp [errW_none, errW_some] <;> rfl) | (simp [*, errW_none, errW_some] <;> rfl), by repeat (first | (with_reducible first | exact HB.out | apply below_alloc | apply pw_below_drewN | apply below_drew1 | refine below_set ?_ GE270.out) | exact HB.out)⟩
                    · rw [if_neg c40] at H
                      have c40b0 : decide (1 ≤ a0_7) = false := decide_eq_false c40
                      clear c40
                      obtain rfl := Option.some.inj H
                      have hcz42_0 : wc.cell? ⟨gb270, 0, none⟩ = some (.string a0_0) := (blk_cell BK270.out 0).trans rfl
                      have hcz42_1 : wc.cell? ⟨gb270, 1, none⟩ = some (.string a0_1) := (blk_cell BK270.out 1).trans rfl
                      have hcz42_2 : wc.cell? ⟨gb270, 2, none⟩ = some (.string a0_2) := (blk_cell BK270.out 2).trans rfl
                      have hcz42_3 : wc.cell? ⟨gb270, 3, none⟩ = some (.string a0_3) := (blk_cell BK270.out 3).trans rfl
                      have hcz42_4 : wc.cell? ⟨gb270, 4, none⟩ = some (.string a0_4) := (blk_cell BK270.out 4).trans rfl
                      have hcz42_5 : wc.cell? ⟨gb270, 5, none⟩ = some (.int .i64 a0_5) := (blk_cell BK270.out 5).trans rfl
                      have hcz42_6 : wc.cell? ⟨gb270, 6, none⟩ = some (.int .i64 a0_6) := (blk_cell BK270.out 6).trans rfl
                      have hcz42_7 : wc.cell? ⟨gb270, 7, none⟩ = some (.int .i64 a0_7) := (blk_cell BK270.out 7).trans rfl
                      have hcz42_8 : wc.cell? ⟨gb270, 8, none⟩ = some (.int .i64 a0_8) := (blk_cell BK270.out 8).trans rfl
                      have hfz42_0 := blk_frozen BK270.out 0
                      have hfz42_1 := blk_frozen BK270.out 1
                      have hfz42_2 := blk_frozen BK270.out 2
                      have hfz42_3 := blk_frozen BK270.out 3
                      have hfz42_4 := blk_frozen BK270.out 4
                      have hfz42_5 := blk_frozen BK270.out 5
                      have hfz42_6 := blk_frozen BK270.out 6
                      have hfz42_7 := blk_frozen BK270.out 7
                      have hfz42_8 := blk_frozen BK270.out 8
                      go_wp2
                      go_ret
                      exact ⟨by first | rfl | (simp [errW_none, errW_some] <;> rfl) | (simp [*, errW_none, errW_some] <;> rfl), by repeat (first | (with_reducible first | exact HB.out | apply below_alloc | apply pw_below_drewN | apply below_drew1 | refine below_set ?_ GE270.out) | exact HB.out)⟩
                  · rw [if_neg c39] at H
                    have c39b0 : (a0_6 == 2) = false := beq_eq_false_iff_ne.mpr c39
                    have c39b1 : (a0_6 != 2) = true := bne_iff_ne.mpr c39
                    obtain rfl := Option.some.inj H
                    have hcz43_0 : wc.cell? ⟨gb270, 0, none⟩ = some (.string a0_0) := (blk_cell BK270.out 0).trans rfl
                    have hcz43_1 : wc.cell? ⟨gb270, 1, none⟩ = some (.string a0_1) := (blk_cell BK270.out 1).trans rfl
                    have hcz43_2 : wc.cell? ⟨gb270, 2, none⟩ = some (.string a0_2) := (blk_cell BK270.out 2).trans rfl
                    have hcz43_3 : wc.cell? ⟨gb270, 3, none⟩ = some (.string a0_3) := (blk_cell BK270.out 3).trans rfl
                    have hcz43_4 : wc.cell? ⟨gb270, 4, none⟩ = some (.string a0_4) := (blk_cell BK270.out 4).trans rfl
                    have hcz43_5 : wc.cell? ⟨gb270, 5, none⟩ = some (.int .i64 a0_5) := (blk_cell BK270.out 5).trans rfl
                    have hcz43_6 : wc.cell? ⟨gb270, 6, none⟩ = some (.int .i64 a0_6) := (blk_cell BK270.out 6).trans rfl
                    have hcz43_7 : wc.cell? ⟨gb270, 7, none⟩ = some (.int .i64 a0_7) := (blk_cell BK270.out 7).trans rfl
                    have hcz43_8 : wc.cell? ⟨gb270, 8, none⟩ = some (.int .i64 a0_8) := (blk_cell BK270.out 8).trans rfl
                    have hfz43_0 := blk_frozen BK270.out 0
                    have hfz43_1 := blk_frozen BK270.out 1
                    have hfz43_2 := blk_frozen BK270.out 2
                    have hfz43_3 := blk_frozen BK270.out 3
                    have hfz43_4 := blk_frozen BK270.out 4
                    have hfz43_5 := blk_frozen BK270.out 5
                    have hfz43_6 := blk_frozen BK270.out 6
                    have hfz43_7 := blk_frozen BK270.out 7
                    have hfz43_8 := blk_frozen BK270.out 8
                    go_wp2
                    go_ret
                    exact ⟨by first | rfl | (simp [errW_none, errW_some] <;> rfl) | (simp [*, errW_none, errW_some] <;> rfl), by repeat (first | (with_reducible first | exact HB.out | apply below_alloc | apply pw_below_drewN | apply below_drew1 | refine below_set ?_ GE270.out) | exact HB.out)⟩

end Go.Proofs.YtcmjgkmnbenniaaGreatDoor.X
