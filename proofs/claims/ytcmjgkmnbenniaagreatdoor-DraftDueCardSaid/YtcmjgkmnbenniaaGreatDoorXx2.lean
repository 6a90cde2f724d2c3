-- Written by wip/xprint.py (this session) over the kit's print.py
import Derived.Test.YtcmjgkmnbenniaaGreatDoorXx0
import Derived.Test.YtcmjgkmnbenniaaGreatDoorXx1
namespace Go.Proofs.YtcmjgkmnbenniaaGreatDoor.X
open Go.RowKit Go.Proofs.YtcmjgkmnbenniaaGreatDoor.Ext Go.Proofs.YtcmjgkmnbenniaaGreatDoorW.PrintWords Go.Proofs.YtcmjgkmnbenniaaGreatDoorW.PrintLast Go.Proofs.YtcmjgkmnbenniaaGreatDoorW.PrintMore
attribute [local go_sem] max2_int min2_int max_two min_two max_three min_three max_four min_four   -- for this text's walks alone
set_option linter.unusedVariables false
set_option linter.unusedSimpArgs false

/-! ### draft_May: function 8 -/
mutual
def draft_May.j0 : Nat → Bool → ByteArray → ByteArray → ByteArray → ByteArray → ByteArray → Int → Int → Int → Int → Option (Bool)
  | 0, _, _, _, _, _, _, _, _, _, _ => none
  | k + 1, x38, x105000, x105001, x105002, x105003, x105004, x105005, x105006, x105007, x105008 => if x38 = true then (some false) else ((money_May.f x105004 x105005).bind fun t109 => (if t109 = true then (if x105005 ≤ 0 then (draft_May.j1 k true x105000 x105001 x105002 x105003 x105004 x105005 x105006 x105007 x105008) else ((draft_isDay.f x105008).bind fun t110 => (draft_May.j1 k (!t110) x105000 x105001 x105002 x105003 x105004 x105005 x105006 x105007 x105008))) else (draft_May.j1 k true x105000 x105001 x105002 x105003 x105004 x105005 x105006 x105007 x105008)))
def draft_May.j1 : Nat → Bool → ByteArray → ByteArray → ByteArray → ByteArray → ByteArray → Int → Int → Int → Int → Option (Bool)
  | 0, _, _, _, _, _, _, _, _, _, _ => none
  | k + 1, x54, x105000, x105001, x105002, x105003, x105004, x105005, x105006, x105007, x105008 => if x54 = true then (some false) else (if x105006 = 0 then (some (x105007 == 0)) else (if x105006 = 1 then (if x105007 ≥ 1 then (some (decide (x105007 ≤ 1000))) else (some false)) else (if x105006 = 2 then (if x105007 ≥ 1 then (some (decide (x105007 ≤ 1000))) else (some false)) else (some false))))
end
def draft_May.f (k : Nat) (a0_0 : ByteArray) (a0_1 : ByteArray) (a0_2 : ByteArray) (a0_3 : ByteArray) (a0_4 : ByteArray) (a0_5 : Int) (a0_6 : Int) (a0_7 : Int) (a0_8 : Int) : Option (Bool) := (mark_Name.f a0_0).bind fun t105 => (if t105 = true then ((mark_Name.f a0_1).bind fun t106 => (if t106 = true then ((mark_Name.f a0_2).bind fun t107 => (if t107 = true then ((mark_Name.f a0_3).bind fun t108 => (if t108 = true then (if a0_1.toList = a0_2.toList then (draft_May.j0 k true a0_0 a0_1 a0_2 a0_3 a0_4 a0_5 a0_6 a0_7 a0_8) else (draft_May.j0 k (a0_3.toList == a0_2.toList) a0_0 a0_1 a0_2 a0_3 a0_4 a0_5 a0_6 a0_7 a0_8)) else (draft_May.j0 k true a0_0 a0_1 a0_2 a0_3 a0_4 a0_5 a0_6 a0_7 a0_8))) else (draft_May.j0 k true a0_0 a0_1 a0_2 a0_3 a0_4 a0_5 a0_6 a0_7 a0_8))) else (draft_May.j0 k true a0_0 a0_1 a0_2 a0_3 a0_4 a0_5 a0_6 a0_7 a0_8))) else (draft_May.j0 k true a0_0 a0_1 a0_2 a0_3 a0_4 a0_5 a0_6 a0_7 a0_8))
theorem draft_May.mono_l : ∀ k, (∀ y0 y1 y2 y3 y4 y5 y6 y7 y8 y9, LeO (draft_May.j0 k y0 y1 y2 y3 y4 y5 y6 y7 y8 y9) (draft_May.j0 (k + 1) y0 y1 y2 y3 y4 y5 y6 y7 y8 y9)) ∧ (∀ y0 y1 y2 y3 y4 y5 y6 y7 y8 y9, LeO (draft_May.j1 k y0 y1 y2 y3 y4 y5 y6 y7 y8 y9) (draft_May.j1 (k + 1) y0 y1 y2 y3 y4 y5 y6 y7 y8 y9))
  | 0 => ⟨fun _ _ _ _ _ _ _ _ _ _ r h => by simp [draft_May.j0] at h, fun _ _ _ _ _ _ _ _ _ _ r h => by simp [draft_May.j1] at h⟩
  | k + 1 => by
    obtain ⟨ih0, ih1⟩ := draft_May.mono_l k
    refine ⟨?_, ?_⟩
    · intro y0 y1 y2 y3 y4 y5 y6 y7 y8 y9
      unfold draft_May.j0
      repeat' first
      | (with_reducible exact ih0 _ _ _ _ _ _ _ _ _ _)
      | (with_reducible exact ih1 _ _ _ _ _ _ _ _ _ _)
      | (with_reducible exact LeO.refl _)
      | (with_reducible exact LeO.none _)
      | (with_reducible refine LeO.ite ?_ ?_)
      | (with_reducible refine LeO.bind ?_ (fun _ => ?_))
      | exact ih0 _ _ _ _ _ _ _ _ _ _
      | exact ih1 _ _ _ _ _ _ _ _ _ _
      | exact LeO.none _
      | refine LeO.ite ?_ ?_
      | refine LeO.bind ?_ (fun _ => ?_)
    · intro y0 y1 y2 y3 y4 y5 y6 y7 y8 y9
      unfold draft_May.j1
      repeat' first
      | (with_reducible exact ih0 _ _ _ _ _ _ _ _ _ _)
      | (with_reducible exact ih1 _ _ _ _ _ _ _ _ _ _)
      | (with_reducible exact LeO.refl _)
      | (with_reducible exact LeO.none _)
      | (with_reducible refine LeO.ite ?_ ?_)
      | (with_reducible refine LeO.bind ?_ (fun _ => ?_))
      | exact ih0 _ _ _ _ _ _ _ _ _ _
      | exact ih1 _ _ _ _ _ _ _ _ _ _
      | exact LeO.none _
      | refine LeO.ite ?_ ?_
      | refine LeO.bind ?_ (fun _ => ?_)
theorem draft_May.mono : ∀ a0 a1 a2 a3 a4 a5 a6 a7 a8 k, LeO (draft_May.f k a0 a1 a2 a3 a4 a5 a6 a7 a8) (draft_May.f (k + 1) a0 a1 a2 a3 a4 a5 a6 a7 a8) := by
  intro a0 a1 a2 a3 a4 a5 a6 a7 a8 k
  obtain ⟨ih0, ih1⟩ := draft_May.mono_l k
  unfold draft_May.f
  repeat' first
      | (with_reducible exact ih0 _ _ _ _ _ _ _ _ _ _)
      | (with_reducible exact ih1 _ _ _ _ _ _ _ _ _ _)
      | (with_reducible exact LeO.refl _)
      | (with_reducible exact LeO.none _)
      | (with_reducible refine LeO.ite ?_ ?_)
      | (with_reducible refine LeO.bind ?_ (fun _ => ?_))
      | exact ih0 _ _ _ _ _ _ _ _ _ _
      | exact ih1 _ _ _ _ _ _ _ _ _ _
      | exact LeO.none _
      | refine LeO.ite ?_ ?_
      | refine LeO.bind ?_ (fun _ => ?_)
set_option maxHeartbeats 8000000 in
set_option maxRecDepth 100000 in
theorem draft_May.calls (k : Nat) (a0_0 : ByteArray) (a0_1 : ByteArray) (a0_2 : ByteArray) (a0_3 : ByteArray) (a0_4 : ByteArray) (a0_5 : Int) (a0_6 : Int) (a0_7 : Int) (a0_8 : Int) (r : Bool) (w : World) (h : draft_May.f k a0_0 a0_1 a0_2 a0_3 a0_4 a0_5 a0_6 a0_7 a0_8 = some r) :
    Calls Tryz.prog 8 #[.agg #[.string a0_0, .string a0_1, .string a0_2, .string a0_3, .string a0_4, .int .i64 a0_5, .int .i64 a0_6, .int .i64 a0_7, .int .i64 a0_8]] w fun e w' => e = .returned (.bool r) ∧ Below w.heap.size w w' := by
  have hu28 := Tryz.underlying28
  have hu26 := Tryz.underlying26
  have HB := Aside0.mk (Below.refl w.heap.size w)
  have H : ((mark_Name.f a0_0).bind fun t105 => (if t105 = true then ((mark_Name.f a0_1).bind fun t106 => (if t106 = true then ((mark_Name.f a0_2).bind fun t107 => (if t107 = true then ((mark_Name.f a0_3).bind fun t108 => (if t108 = true then (if a0_1.toList = a0_2.toList then (draft_May.j0 k true a0_0 a0_1 a0_2 a0_3 a0_4 a0_5 a0_6 a0_7 a0_8) else (draft_May.j0 k (a0_3.toList == a0_2.toList) a0_0 a0_1 a0_2 a0_3 a0_4 a0_5 a0_6 a0_7 a0_8)) else (draft_May.j0 k true a0_0 a0_1 a0_2 a0_3 a0_4 a0_5 a0_6 a0_7 a0_8))) else (draft_May.j0 k true a0_0 a0_1 a0_2 a0_3 a0_4 a0_5 a0_6 a0_7 a0_8))) else (draft_May.j0 k true a0_0 a0_1 a0_2 a0_3 a0_4 a0_5 a0_6 a0_7 a0_8))) else (draft_May.j0 k true a0_0 a0_1 a0_2 a0_3 a0_4 a0_5 a0_6 a0_7 a0_8))) = some r := h
  clear h
  have HC2 := Aside0.mk H
  clear H
  go_enter Tryz.func8, Tryz.ntmps8
  go_upto_region 1 with (first | ((with_reducible refine gate_dst (N := 1) rfl ?_); refine box_event ?hg (N := 1) ?hd (cs := #[.string a0_0, .string a0_1, .string a0_2, .string a0_3, .string a0_4, .int .i64 a0_5, .int .i64 a0_6, .int .i64 a0_7, .int .i64 a0_8]) (t := 28) ?hr ?_; (case hd => rfl); (case hg => rfl); (case hr => first | (go_simp; done) | (go_simp; rfl)); intro gb104 hg w3 hbox hb; have n0_ := Aside0.mk (below_step (by repeat (first | (with_reducible first | exact HB.out | apply below_alloc | apply pw_below_drewN | apply below_drew1) | exact HB.out)) hb); have n1_ := Aside0.mk (hbox); have n2_ := Aside0.mk ((by rw [hg]; exact (below_size (by repeat (first | (with_reducible first | exact HB.out | apply below_alloc | apply pw_below_drewN | apply below_drew1) | exact HB.out))) : w.heap.size ≤ gb104)); have n3_ := Aside0.mk ((by rw [hg]; exact (below_size (by repeat (first | (with_reducible first | exact HB.out | apply below_alloc | apply pw_below_drewN | apply below_drew1) | exact HB.out))) : w.heap.size ≤ gb104)); clear HB; have HB := n0_; have BK104 := n1_; have GW104 := n2_; have GE104 := n3_; clear n0_ n1_ n2_ n3_; clear hb hbox hg))
  (try simp only [Act.put, List.setIfInBounds_toArray, List.set_cons_zero, List.set_cons_succ])
  go_cut [38] (fun v38 wc => ∃ (kq : Nat) (x38_1 : Bool), v38 = .bool x38_1 ∧ Aside0 (draft_May.j0 kq x38_1 a0_0 a0_1 a0_2 a0_3 a0_4 a0_5 a0_6 a0_7 a0_8 = some r) ∧ Aside0 (kq ≤ k) ∧ Aside0 (wc.heap[gb104]? = some (.cells #[.string a0_0, .string a0_1, .string a0_2, .string a0_3, .string a0_4, .int .i64 a0_5, .int .i64 a0_6, .int .i64 a0_7, .int .i64 a0_8] 28 (0, 0))) ∧ Aside0 (Below w.heap.size w wc))
  case first =>
    have H := HC2.out
    clear HC2
    replace H := Option.bind_eq_some_iff.mp H
    obtain ⟨t105, A40, H⟩ := H
    replace H : (if t105 = true then ((mark_Name.f a0_1).bind fun t106 => (if t106 = true then ((mark_Name.f a0_2).bind fun t107 => (if t107 = true then ((mark_Name.f a0_3).bind fun t108 => (if t108 = true then (if a0_1.toList = a0_2.toList then (draft_May.j0 k true a0_0 a0_1 a0_2 a0_3 a0_4 a0_5 a0_6 a0_7 a0_8) else (draft_May.j0 k (a0_3.toList == a0_2.toList) a0_0 a0_1 a0_2 a0_3 a0_4 a0_5 a0_6 a0_7 a0_8)) else (draft_May.j0 k true a0_0 a0_1 a0_2 a0_3 a0_4 a0_5 a0_6 a0_7 a0_8))) else (draft_May.j0 k true a0_0 a0_1 a0_2 a0_3 a0_4 a0_5 a0_6 a0_7 a0_8))) else (draft_May.j0 k true a0_0 a0_1 a0_2 a0_3 a0_4 a0_5 a0_6 a0_7 a0_8))) else (draft_May.j0 k true a0_0 a0_1 a0_2 a0_3 a0_4 a0_5 a0_6 a0_7 a0_8)) = some r := H
    have A4 := Aside0.mk A40
    clear A40
    by_cases c5 : t105 = true
    · subst c5
      have H1 : ((mark_Name.f a0_1).bind fun t106 => (if t106 = true then ((mark_Name.f a0_2).bind fun t107 => (if t107 = true then ((mark_Name.f a0_3).bind fun t108 => (if t108 = true then (if a0_1.toList = a0_2.toList then (draft_May.j0 k true a0_0 a0_1 a0_2 a0_3 a0_4 a0_5 a0_6 a0_7 a0_8) else (draft_May.j0 k (a0_3.toList == a0_2.toList) a0_0 a0_1 a0_2 a0_3 a0_4 a0_5 a0_6 a0_7 a0_8)) else (draft_May.j0 k true a0_0 a0_1 a0_2 a0_3 a0_4 a0_5 a0_6 a0_7 a0_8))) else (draft_May.j0 k true a0_0 a0_1 a0_2 a0_3 a0_4 a0_5 a0_6 a0_7 a0_8))) else (draft_May.j0 k true a0_0 a0_1 a0_2 a0_3 a0_4 a0_5 a0_6 a0_7 a0_8))) = some r := by rw [if_pos rfl] at H; exact H
      clear H
      have H := H1
      clear H1
      replace H := Option.bind_eq_some_iff.mp H
      obtain ⟨t106, A60, H⟩ := H
      replace H : (if t106 = true then ((mark_Name.f a0_2).bind fun t107 => (if t107 = true then ((mark_Name.f a0_3).bind fun t108 => (if t108 = true then (if a0_1.toList = a0_2.toList then (draft_May.j0 k true a0_0 a0_1 a0_2 a0_3 a0_4 a0_5 a0_6 a0_7 a0_8) else (draft_May.j0 k (a0_3.toList == a0_2.toList) a0_0 a0_1 a0_2 a0_3 a0_4 a0_5 a0_6 a0_7 a0_8)) else (draft_May.j0 k true a0_0 a0_1 a0_2 a0_3 a0_4 a0_5 a0_6 a0_7 a0_8))) else (draft_May.j0 k true a0_0 a0_1 a0_2 a0_3 a0_4 a0_5 a0_6 a0_7 a0_8))) else (draft_May.j0 k true a0_0 a0_1 a0_2 a0_3 a0_4 a0_5 a0_6 a0_7 a0_8)) = some r := H
      have A6 := Aside0.mk A60
      clear A60
      by_cases c7 : t106 = true
      · subst c7
        have H1 : ((mark_Name.f a0_2).bind fun t107 => (if t107 = true then ((mark_Name.f a0_3).bind fun t108 => (if t108 = true then (if a0_1.toList = a0_2.toList then (draft_May.j0 k true a0_0 a0_1 a0_2 a0_3 a0_4 a0_5 a0_6 a0_7 a0_8) else (draft_May.j0 k (a0_3.toList == a0_2.toList) a0_0 a0_1 a0_2 a0_3 a0_4 a0_5 a0_6 a0_7 a0_8)) else (draft_May.j0 k true a0_0 a0_1 a0_2 a0_3 a0_4 a0_5 a0_6 a0_7 a0_8))) else (draft_May.j0 k true a0_0 a0_1 a0_2 a0_3 a0_4 a0_5 a0_6 a0_7 a0_8))) = some r := by rw [if_pos rfl] at H; exact H
        clear H
        have H := H1
        clear H1
        replace H := Option.bind_eq_some_iff.mp H
        obtain ⟨t107, A80, H⟩ := H
        replace H : (if t107 = true then ((mark_Name.f a0_3).bind fun t108 => (if t108 = true then (if a0_1.toList = a0_2.toList then (draft_May.j0 k true a0_0 a0_1 a0_2 a0_3 a0_4 a0_5 a0_6 a0_7 a0_8) else (draft_May.j0 k (a0_3.toList == a0_2.toList) a0_0 a0_1 a0_2 a0_3 a0_4 a0_5 a0_6 a0_7 a0_8)) else (draft_May.j0 k true a0_0 a0_1 a0_2 a0_3 a0_4 a0_5 a0_6 a0_7 a0_8))) else (draft_May.j0 k true a0_0 a0_1 a0_2 a0_3 a0_4 a0_5 a0_6 a0_7 a0_8)) = some r := H
        have A8 := Aside0.mk A80
        clear A80
        by_cases c9 : t107 = true
        · subst c9
          have H1 : ((mark_Name.f a0_3).bind fun t108 => (if t108 = true then (if a0_1.toList = a0_2.toList then (draft_May.j0 k true a0_0 a0_1 a0_2 a0_3 a0_4 a0_5 a0_6 a0_7 a0_8) else (draft_May.j0 k (a0_3.toList == a0_2.toList) a0_0 a0_1 a0_2 a0_3 a0_4 a0_5 a0_6 a0_7 a0_8)) else (draft_May.j0 k true a0_0 a0_1 a0_2 a0_3 a0_4 a0_5 a0_6 a0_7 a0_8))) = some r := by rw [if_pos rfl] at H; exact H
          clear H
          have H := H1
          clear H1
          replace H := Option.bind_eq_some_iff.mp H
          obtain ⟨t108, A100, H⟩ := H
          replace H : (if t108 = true then (if a0_1.toList = a0_2.toList then (draft_May.j0 k true a0_0 a0_1 a0_2 a0_3 a0_4 a0_5 a0_6 a0_7 a0_8) else (draft_May.j0 k (a0_3.toList == a0_2.toList) a0_0 a0_1 a0_2 a0_3 a0_4 a0_5 a0_6 a0_7 a0_8)) else (draft_May.j0 k true a0_0 a0_1 a0_2 a0_3 a0_4 a0_5 a0_6 a0_7 a0_8)) = some r := H
          have A10 := Aside0.mk A100
          clear A100
          by_cases c11 : t108 = true
          · subst c11
            have H1 : (if a0_1.toList = a0_2.toList then (draft_May.j0 k true a0_0 a0_1 a0_2 a0_3 a0_4 a0_5 a0_6 a0_7 a0_8) else (draft_May.j0 k (a0_3.toList == a0_2.toList) a0_0 a0_1 a0_2 a0_3 a0_4 a0_5 a0_6 a0_7 a0_8)) = some r := by rw [if_pos rfl] at H; exact H
            clear H
            have H := H1
            clear H1
            by_cases c12 : a0_1.toList = a0_2.toList
            · rw [if_pos c12] at H
              have c12b0 : (a0_1.toList == a0_2.toList) = true := beq_iff_eq.mpr c12
              have c12b1 : (a0_1.toList != a0_2.toList) = false := bne_eq_false_iff_eq.mpr c12
              clear c12
              (first | rw [c12b0] | (simp only [i64_w, i32_w]; rw [c12b0]) | skip)
              have H' := Aside0.mk H
              clear H
              have hcz13_0 : w3.cell? ⟨gb104, 0, none⟩ = some (.string a0_0) := (blk_cell BK104.out 0).trans rfl
              have hcz13_1 : w3.cell? ⟨gb104, 1, none⟩ = some (.string a0_1) := (blk_cell BK104.out 1).trans rfl
              have hcz13_2 : w3.cell? ⟨gb104, 2, none⟩ = some (.string a0_2) := (blk_cell BK104.out 2).trans rfl
              have hcz13_3 : w3.cell? ⟨gb104, 3, none⟩ = some (.string a0_3) := (blk_cell BK104.out 3).trans rfl
              have hcz13_4 : w3.cell? ⟨gb104, 4, none⟩ = some (.string a0_4) := (blk_cell BK104.out 4).trans rfl
              have hcz13_5 : w3.cell? ⟨gb104, 5, none⟩ = some (.int .i64 a0_5) := (blk_cell BK104.out 5).trans rfl
              have hcz13_6 : w3.cell? ⟨gb104, 6, none⟩ = some (.int .i64 a0_6) := (blk_cell BK104.out 6).trans rfl
              have hcz13_7 : w3.cell? ⟨gb104, 7, none⟩ = some (.int .i64 a0_7) := (blk_cell BK104.out 7).trans rfl
              have hcz13_8 : w3.cell? ⟨gb104, 8, none⟩ = some (.int .i64 a0_8) := (blk_cell BK104.out 8).trans rfl
              have hfz13_0 := blk_frozen BK104.out 0
              have hfz13_1 := blk_frozen BK104.out 1
              have hfz13_2 := blk_frozen BK104.out 2
              have hfz13_3 := blk_frozen BK104.out 3
              have hfz13_4 := blk_frozen BK104.out 4
              have hfz13_5 := blk_frozen BK104.out 5
              have hfz13_6 := blk_frozen BK104.out 6
              have hfz13_7 := blk_frozen BK104.out 7
              have hfz13_8 := blk_frozen BK104.out 8
              go_wp2_with (first | ((with_reducible refine gate_callee (f := 23) rfl ?_); refine goesL_ (some 5) rfl rfl Tryz.func23 (by kernel_rfl) rfl #[.string a0_0] rfl (by (try simp only [List.map_toArray, List.map_cons, List.map_nil]); first | done | rfl | (simp only [List.length_drop, List.length_take]; rfl)) ?_; (with_reducible refine (mark_Name.calls a0_0 true _ A4.out).mono ?_); rintro e w' ⟨rfl, ⟨nd, rfl⟩⟩; refine ⟨_, rfl, ?_⟩) | (go_at_call 23; (with_reducible refine (mark_Name.calls a0_1 true _ A6.out).mono ?_); rintro e w' ⟨rfl, ⟨nd, rfl⟩⟩) | (go_at_call 23; (with_reducible refine (mark_Name.calls a0_2 true _ A8.out).mono ?_); rintro e w' ⟨rfl, ⟨nd, rfl⟩⟩) | (go_at_call 23; (with_reducible refine (mark_Name.calls a0_3 true _ A10.out).mono ?_); rintro e w' ⟨rfl, ⟨nd, rfl⟩⟩))
              go_meet
              case rel => exact ⟨_, (true), (by first | rfl | (simp; done) | (simp [*]; done)), H', ⟨by first | omega | exact Nat.le_refl _⟩, ⟨by (with_reducible repeat (first | refine blk_drewN ?_ _ | refine blk_drew ?_ | refine blk_alloc ?_ _)); exact BK104.out⟩, ⟨by repeat (first | (with_reducible first | exact HB.out | apply below_alloc | apply pw_below_drewN | apply below_drew1 | refine below_set ?_ GE104.out) | exact HB.out)⟩⟩
            · rw [if_neg c12] at H
              have c12b0 : (a0_1.toList == a0_2.toList) = false := beq_eq_false_iff_ne.mpr c12
              have c12b1 : (a0_1.toList != a0_2.toList) = true := bne_iff_ne.mpr c12
              (first | rw [c12b0] | (simp only [i64_w, i32_w]; rw [c12b0]) | skip)
              have H' := Aside0.mk H
              clear H
              have hcz14_0 : w3.cell? ⟨gb104, 0, none⟩ = some (.string a0_0) := (blk_cell BK104.out 0).trans rfl
              have hcz14_1 : w3.cell? ⟨gb104, 1, none⟩ = some (.string a0_1) := (blk_cell BK104.out 1).trans rfl
              have hcz14_2 : w3.cell? ⟨gb104, 2, none⟩ = some (.string a0_2) := (blk_cell BK104.out 2).trans rfl
              have hcz14_3 : w3.cell? ⟨gb104, 3, none⟩ = some (.string a0_3) := (blk_cell BK104.out 3).trans rfl
              have hcz14_4 : w3.cell? ⟨gb104, 4, none⟩ = some (.string a0_4) := (blk_cell BK104.out 4).trans rfl
              have hcz14_5 : w3.cell? ⟨gb104, 5, none⟩ = some (.int .i64 a0_5) := (blk_cell BK104.out 5).trans rfl
              have hcz14_6 : w3.cell? ⟨gb104, 6, none⟩ = some (.int .i64 a0_6) := (blk_cell BK104.out 6).trans rfl
              have hcz14_7 : w3.cell? ⟨gb104, 7, none⟩ = some (.int .i64 a0_7) := (blk_cell BK104.out 7).trans rfl
              have hcz14_8 : w3.cell? ⟨gb104, 8, none⟩ = some (.int .i64 a0_8) := (blk_cell BK104.out 8).trans rfl
              have hfz14_0 := blk_frozen BK104.out 0
              have hfz14_1 := blk_frozen BK104.out 1
              have hfz14_2 := blk_frozen BK104.out 2
              have hfz14_3 := blk_frozen BK104.out 3
              have hfz14_4 := blk_frozen BK104.out 4
              have hfz14_5 := blk_frozen BK104.out 5
              have hfz14_6 := blk_frozen BK104.out 6
              have hfz14_7 := blk_frozen BK104.out 7
              have hfz14_8 := blk_frozen BK104.out 8
              go_wp2_with (first | ((with_reducible refine gate_callee (f := 23) rfl ?_); refine goesL_ (some 5) rfl rfl Tryz.func23 (by kernel_rfl) rfl #[.string a0_0] rfl (by (try simp only [List.map_toArray, List.map_cons, List.map_nil]); first | done | rfl | (simp only [List.length_drop, List.length_take]; rfl)) ?_; (with_reducible refine (mark_Name.calls a0_0 true _ A4.out).mono ?_); rintro e w' ⟨rfl, ⟨nd, rfl⟩⟩; refine ⟨_, rfl, ?_⟩) | (go_at_call 23; (with_reducible refine (mark_Name.calls a0_1 true _ A6.out).mono ?_); rintro e w' ⟨rfl, ⟨nd, rfl⟩⟩) | (go_at_call 23; (with_reducible refine (mark_Name.calls a0_2 true _ A8.out).mono ?_); rintro e w' ⟨rfl, ⟨nd, rfl⟩⟩) | (go_at_call 23; (with_reducible refine (mark_Name.calls a0_3 true _ A10.out).mono ?_); rintro e w' ⟨rfl, ⟨nd, rfl⟩⟩))
              go_meet
              case rel => exact ⟨_, ((a0_3.toList == a0_2.toList)), (by first | rfl | (simp; done) | (simp [*]; done)), H', ⟨by first | omega | exact Nat.le_refl _⟩, ⟨by (with_reducible repeat (first | refine blk_drewN ?_ _ | refine blk_drew ?_ | refine blk_alloc ?_ _)); exact BK104.out⟩, ⟨by repeat (first | (with_reducible first | exact HB.out | apply below_alloc | apply pw_below_drewN | apply below_drew1 | refine below_set ?_ GE104.out) | exact HB.out)⟩⟩
          · replace c11 := Bool.eq_false_iff.mpr c11
            subst c11
            have H1 : (draft_May.j0 k true a0_0 a0_1 a0_2 a0_3 a0_4 a0_5 a0_6 a0_7 a0_8) = some r := by rw [if_neg (show ¬ (false = true) by decide)] at H; exact H
            clear H
            have H := H1
            clear H1
            have H' := Aside0.mk H
            clear H
            have hcz15_0 : w3.cell? ⟨gb104, 0, none⟩ = some (.string a0_0) := (blk_cell BK104.out 0).trans rfl
            have hcz15_1 : w3.cell? ⟨gb104, 1, none⟩ = some (.string a0_1) := (blk_cell BK104.out 1).trans rfl
            have hcz15_2 : w3.cell? ⟨gb104, 2, none⟩ = some (.string a0_2) := (blk_cell BK104.out 2).trans rfl
            have hcz15_3 : w3.cell? ⟨gb104, 3, none⟩ = some (.string a0_3) := (blk_cell BK104.out 3).trans rfl
            have hcz15_4 : w3.cell? ⟨gb104, 4, none⟩ = some (.string a0_4) := (blk_cell BK104.out 4).trans rfl
            have hcz15_5 : w3.cell? ⟨gb104, 5, none⟩ = some (.int .i64 a0_5) := (blk_cell BK104.out 5).trans rfl
            have hcz15_6 : w3.cell? ⟨gb104, 6, none⟩ = some (.int .i64 a0_6) := (blk_cell BK104.out 6).trans rfl
            have hcz15_7 : w3.cell? ⟨gb104, 7, none⟩ = some (.int .i64 a0_7) := (blk_cell BK104.out 7).trans rfl
            have hcz15_8 : w3.cell? ⟨gb104, 8, none⟩ = some (.int .i64 a0_8) := (blk_cell BK104.out 8).trans rfl
            have hfz15_0 := blk_frozen BK104.out 0
            have hfz15_1 := blk_frozen BK104.out 1
            have hfz15_2 := blk_frozen BK104.out 2
            have hfz15_3 := blk_frozen BK104.out 3
            have hfz15_4 := blk_frozen BK104.out 4
            have hfz15_5 := blk_frozen BK104.out 5
            have hfz15_6 := blk_frozen BK104.out 6
            have hfz15_7 := blk_frozen BK104.out 7
            have hfz15_8 := blk_frozen BK104.out 8
            go_wp2_with (first | ((with_reducible refine gate_callee (f := 23) rfl ?_); refine goesL_ (some 5) rfl rfl Tryz.func23 (by kernel_rfl) rfl #[.string a0_0] rfl (by (try simp only [List.map_toArray, List.map_cons, List.map_nil]); first | done | rfl | (simp only [List.length_drop, List.length_take]; rfl)) ?_; (with_reducible refine (mark_Name.calls a0_0 true _ A4.out).mono ?_); rintro e w' ⟨rfl, ⟨nd, rfl⟩⟩; refine ⟨_, rfl, ?_⟩) | (go_at_call 23; (with_reducible refine (mark_Name.calls a0_1 true _ A6.out).mono ?_); rintro e w' ⟨rfl, ⟨nd, rfl⟩⟩) | (go_at_call 23; (with_reducible refine (mark_Name.calls a0_2 true _ A8.out).mono ?_); rintro e w' ⟨rfl, ⟨nd, rfl⟩⟩) | (go_at_call 23; (with_reducible refine (mark_Name.calls a0_3 false _ A10.out).mono ?_); rintro e w' ⟨rfl, ⟨nd, rfl⟩⟩))
            go_meet
            case rel => exact ⟨_, (true), (by first | rfl | (simp; done) | (simp [*]; done)), H', ⟨by first | omega | exact Nat.le_refl _⟩, ⟨by (with_reducible repeat (first | refine blk_drewN ?_ _ | refine blk_drew ?_ | refine blk_alloc ?_ _)); exact BK104.out⟩, ⟨by repeat (first | (with_reducible first | exact HB.out | apply below_alloc | apply pw_below_drewN | apply below_drew1 | refine below_set ?_ GE104.out) | exact HB.out)⟩⟩
        · replace c9 := Bool.eq_false_iff.mpr c9
          subst c9
          have H1 : (draft_May.j0 k true a0_0 a0_1 a0_2 a0_3 a0_4 a0_5 a0_6 a0_7 a0_8) = some r := by rw [if_neg (show ¬ (false = true) by decide)] at H; exact H
          clear H
          have H := H1
          clear H1
          have H' := Aside0.mk H
          clear H
          have hcz16_0 : w3.cell? ⟨gb104, 0, none⟩ = some (.string a0_0) := (blk_cell BK104.out 0).trans rfl
          have hcz16_1 : w3.cell? ⟨gb104, 1, none⟩ = some (.string a0_1) := (blk_cell BK104.out 1).trans rfl
          have hcz16_2 : w3.cell? ⟨gb104, 2, none⟩ = some (.string a0_2) := (blk_cell BK104.out 2).trans rfl
          have hcz16_3 : w3.cell? ⟨gb104, 3, none⟩ = some (.string a0_3) := (blk_cell BK104.out 3).trans rfl
          have hcz16_4 : w3.cell? ⟨gb104, 4, none⟩ = some (.string a0_4) := (blk_cell BK104.out 4).trans rfl
          have hcz16_5 : w3.cell? ⟨gb104, 5, none⟩ = some (.int .i64 a0_5) := (blk_cell BK104.out 5).trans rfl
          have hcz16_6 : w3.cell? ⟨gb104, 6, none⟩ = some (.int .i64 a0_6) := (blk_cell BK104.out 6).trans rfl
          have hcz16_7 : w3.cell? ⟨gb104, 7, none⟩ = some (.int .i64 a0_7) := (blk_cell BK104.out 7).trans rfl
          have hcz16_8 : w3.cell? ⟨gb104, 8, none⟩ = some (.int .i64 a0_8) := (blk_cell BK104.out 8).trans rfl
          have hfz16_0 := blk_frozen BK104.out 0
          have hfz16_1 := blk_frozen BK104.out 1
          have hfz16_2 := blk_frozen BK104.out 2
          have hfz16_3 := blk_frozen BK104.out 3
          have hfz16_4 := blk_frozen BK104.out 4
          have hfz16_5 := blk_frozen BK104.out 5
          have hfz16_6 := blk_frozen BK104.out 6
          have hfz16_7 := blk_frozen BK104.out 7
          have hfz16_8 := blk_frozen BK104.out 8
          go_wp2_with (first | ((with_reducible refine gate_callee (f := 23) rfl ?_); refine goesL_ (some 5) rfl rfl Tryz.func23 (by kernel_rfl) rfl #[.string a0_0] rfl (by (try simp only [List.map_toArray, List.map_cons, List.map_nil]); first | done | rfl | (simp only [List.length_drop, List.length_take]; rfl)) ?_; (with_reducible refine (mark_Name.calls a0_0 true _ A4.out).mono ?_); rintro e w' ⟨rfl, ⟨nd, rfl⟩⟩; refine ⟨_, rfl, ?_⟩) | (go_at_call 23; (with_reducible refine (mark_Name.calls a0_1 true _ A6.out).mono ?_); rintro e w' ⟨rfl, ⟨nd, rfl⟩⟩) | (go_at_call 23; (with_reducible refine (mark_Name.calls a0_2 false _ A8.out).mono ?_); rintro e w' ⟨rfl, ⟨nd, rfl⟩⟩))
          go_meet
          case rel => exact ⟨_, (true), (by first | rfl | (simp; done) | (simp [*]; done)), H', ⟨by first | omega | exact Nat.le_refl _⟩, ⟨by (with_reducible repeat (first | refine blk_drewN ?_ _ | refine blk_drew ?_ | refine blk_alloc ?_ _)); exact BK104.out⟩, ⟨by repeat (first | (with_reducible first | exact HB.out | apply below_alloc | apply pw_below_drewN | apply below_drew1 | refine below_set ?_ GE104.out) | exact HB.out)⟩⟩
      · replace c7 := Bool.eq_false_iff.mpr c7
        subst c7
        have H1 : (draft_May.j0 k true a0_0 a0_1 a0_2 a0_3 a0_4 a0_5 a0_6 a0_7 a0_8) = some r := by rw [if_neg (show ¬ (false = true) by decide)] at H; exact H
        clear H
        have H := H1
        clear H1
        have H' := Aside0.mk H
        clear H
        have hcz17_0 : w3.cell? ⟨gb104, 0, none⟩ = some (.string a0_0) := (blk_cell BK104.out 0).trans rfl
        have hcz17_1 : w3.cell? ⟨gb104, 1, none⟩ = some (.string a0_1) := (blk_cell BK104.out 1).trans rfl
        have hcz17_2 : w3.cell? ⟨gb104, 2, none⟩ = some (.string a0_2) := (blk_cell BK104.out 2).trans rfl
        have hcz17_3 : w3.cell? ⟨gb104, 3, none⟩ = some (.string a0_3) := (blk_cell BK104.out 3).trans rfl
        have hcz17_4 : w3.cell? ⟨gb104, 4, none⟩ = some (.string a0_4) := (blk_cell BK104.out 4).trans rfl
        have hcz17_5 : w3.cell? ⟨gb104, 5, none⟩ = some (.int .i64 a0_5) := (blk_cell BK104.out 5).trans rfl
        have hcz17_6 : w3.cell? ⟨gb104, 6, none⟩ = some (.int .i64 a0_6) := (blk_cell BK104.out 6).trans rfl
        have hcz17_7 : w3.cell? ⟨gb104, 7, none⟩ = some (.int .i64 a0_7) := (blk_cell BK104.out 7).trans rfl
        have hcz17_8 : w3.cell? ⟨gb104, 8, none⟩ = some (.int .i64 a0_8) := (blk_cell BK104.out 8).trans rfl
        have hfz17_0 := blk_frozen BK104.out 0
        have hfz17_1 := blk_frozen BK104.out 1
        have hfz17_2 := blk_frozen BK104.out 2
        have hfz17_3 := blk_frozen BK104.out 3
        have hfz17_4 := blk_frozen BK104.out 4
        have hfz17_5 := blk_frozen BK104.out 5
        have hfz17_6 := blk_frozen BK104.out 6
        have hfz17_7 := blk_frozen BK104.out 7
        have hfz17_8 := blk_frozen BK104.out 8
        go_wp2_with (first | ((with_reducible refine gate_callee (f := 23) rfl ?_); refine goesL_ (some 5) rfl rfl Tryz.func23 (by kernel_rfl) rfl #[.string a0_0] rfl (by (try simp only [List.map_toArray, List.map_cons, List.map_nil]); first | done | rfl | (simp only [List.length_drop, List.length_take]; rfl)) ?_; (with_reducible refine (mark_Name.calls a0_0 true _ A4.out).mono ?_); rintro e w' ⟨rfl, ⟨nd, rfl⟩⟩; refine ⟨_, rfl, ?_⟩) | (go_at_call 23; (with_reducible refine (mark_Name.calls a0_1 false _ A6.out).mono ?_); rintro e w' ⟨rfl, ⟨nd, rfl⟩⟩))
        go_meet
        case rel => exact ⟨_, (true), (by first | rfl | (simp; done) | (simp [*]; done)), H', ⟨by first | omega | exact Nat.le_refl _⟩, ⟨by (with_reducible repeat (first | refine blk_drewN ?_ _ | refine blk_drew ?_ | refine blk_alloc ?_ _)); exact BK104.out⟩, ⟨by repeat (first | (with_reducible first | exact HB.out | apply below_alloc | apply pw_below_drewN | apply below_drew1 | refine below_set ?_ GE104.out) | exact HB.out)⟩⟩
    · replace c5 := Bool.eq_false_iff.mpr c5
      subst c5
      have H1 : (draft_May.j0 k true a0_0 a0_1 a0_2 a0_3 a0_4 a0_5 a0_6 a0_7 a0_8) = some r := by rw [if_neg (show ¬ (false = true) by decide)] at H; exact H
      clear H
      have H := H1
      clear H1
      have H' := Aside0.mk H
      clear H
      have hcz18_0 : w3.cell? ⟨gb104, 0, none⟩ = some (.string a0_0) := (blk_cell BK104.out 0).trans rfl
      have hcz18_1 : w3.cell? ⟨gb104, 1, none⟩ = some (.string a0_1) := (blk_cell BK104.out 1).trans rfl
      have hcz18_2 : w3.cell? ⟨gb104, 2, none⟩ = some (.string a0_2) := (blk_cell BK104.out 2).trans rfl
      have hcz18_3 : w3.cell? ⟨gb104, 3, none⟩ = some (.string a0_3) := (blk_cell BK104.out 3).trans rfl
      have hcz18_4 : w3.cell? ⟨gb104, 4, none⟩ = some (.string a0_4) := (blk_cell BK104.out 4).trans rfl
      have hcz18_5 : w3.cell? ⟨gb104, 5, none⟩ = some (.int .i64 a0_5) := (blk_cell BK104.out 5).trans rfl
      have hcz18_6 : w3.cell? ⟨gb104, 6, none⟩ = some (.int .i64 a0_6) := (blk_cell BK104.out 6).trans rfl
      have hcz18_7 : w3.cell? ⟨gb104, 7, none⟩ = some (.int .i64 a0_7) := (blk_cell BK104.out 7).trans rfl
      have hcz18_8 : w3.cell? ⟨gb104, 8, none⟩ = some (.int .i64 a0_8) := (blk_cell BK104.out 8).trans rfl
      have hfz18_0 := blk_frozen BK104.out 0
      have hfz18_1 := blk_frozen BK104.out 1
      have hfz18_2 := blk_frozen BK104.out 2
      have hfz18_3 := blk_frozen BK104.out 3
      have hfz18_4 := blk_frozen BK104.out 4
      have hfz18_5 := blk_frozen BK104.out 5
      have hfz18_6 := blk_frozen BK104.out 6
      have hfz18_7 := blk_frozen BK104.out 7
      have hfz18_8 := blk_frozen BK104.out 8
      go_wp2_with (first | ((with_reducible refine gate_callee (f := 23) rfl ?_); refine goesL_ (some 5) rfl rfl Tryz.func23 (by kernel_rfl) rfl #[.string a0_0] rfl (by (try simp only [List.map_toArray, List.map_cons, List.map_nil]); first | done | rfl | (simp only [List.length_drop, List.length_take]; rfl)) ?_; (with_reducible refine (mark_Name.calls a0_0 false _ A4.out).mono ?_); rintro e w' ⟨rfl, ⟨nd, rfl⟩⟩; refine ⟨_, rfl, ?_⟩))
      go_meet
      case rel => exact ⟨_, (true), (by first | rfl | (simp; done) | (simp [*]; done)), H', ⟨by first | omega | exact Nat.le_refl _⟩, ⟨by (with_reducible repeat (first | refine blk_drewN ?_ _ | refine blk_drew ?_ | refine blk_alloc ?_ _)); exact BK104.out⟩, ⟨by repeat (first | (with_reducible first | exact HB.out | apply below_alloc | apply pw_below_drewN | apply below_drew1 | refine below_set ?_ GE104.out) | exact HB.out)⟩⟩
  case rest =>
    clear HC2
    try clear c1
    try clear c2
    try clear p2
    try clear c5
    try clear c7
    try clear c8
    try clear c9
    try clear c11
    try clear c12
    try clear c12b0
    try clear c12b1
    try clear hcz13_0
    try clear hcz13_1
    try clear hcz13_2
    try clear hcz13_3
    try clear hcz13_4
    try clear hcz13_5
    try clear hcz13_6
    try clear hcz13_7
    try clear hcz13_8
    try clear hcz14_0
    try clear hcz14_1
    try clear hcz14_2
    try clear hcz14_3
    try clear hcz14_4
    try clear hcz14_5
    try clear hcz14_6
    try clear hcz14_7
    try clear hcz14_8
    try clear hcz15_0
    try clear hcz15_1
    try clear hcz15_2
    try clear hcz15_3
    try clear hcz15_4
    try clear hcz15_5
    try clear hcz15_6
    try clear hcz15_7
    try clear hcz15_8
    try clear hcz16_0
    try clear hcz16_1
    try clear hcz16_2
    try clear hcz16_3
    try clear hcz16_4
    try clear hcz16_5
    try clear hcz16_6
    try clear hcz16_7
    try clear hcz16_8
    try clear hcz17_0
    try clear hcz17_1
    try clear hcz17_2
    try clear hcz17_3
    try clear hcz17_4
    try clear hcz17_5
    try clear hcz17_6
    try clear hcz17_7
    try clear hcz17_8
    try clear hcz18_0
    try clear hcz18_1
    try clear hcz18_2
    try clear hcz18_3
    try clear hcz18_4
    try clear hcz18_5
    try clear hcz18_6
    try clear hcz18_7
    try clear hcz18_8
    try clear hfz13_0
    try clear hfz13_1
    try clear hfz13_2
    try clear hfz13_3
    try clear hfz13_4
    try clear hfz13_5
    try clear hfz13_6
    try clear hfz13_7
    try clear hfz13_8
    try clear hfz14_0
    try clear hfz14_1
    try clear hfz14_2
    try clear hfz14_3
    try clear hfz14_4
    try clear hfz14_5
    try clear hfz14_6
    try clear hfz14_7
    try clear hfz14_8
    try clear hfz15_0
    try clear hfz15_1
    try clear hfz15_2
    try clear hfz15_3
    try clear hfz15_4
    try clear hfz15_5
    try clear hfz15_6
    try clear hfz15_7
    try clear hfz15_8
    try clear hfz16_0
    try clear hfz16_1
    try clear hfz16_2
    try clear hfz16_3
    try clear hfz16_4
    try clear hfz16_5
    try clear hfz16_6
    try clear hfz16_7
    try clear hfz16_8
    try clear hfz17_0
    try clear hfz17_1
    try clear hfz17_2
    try clear hfz17_3
    try clear hfz17_4
    try clear hfz17_5
    try clear hfz17_6
    try clear hfz17_7
    try clear hfz17_8
    try clear hfz18_0
    try clear hfz18_1
    try clear hfz18_2
    try clear hfz18_3
    try clear hfz18_4
    try clear hfz18_5
    try clear hfz18_6
    try clear hfz18_7
    try clear hfz18_8
    obtain ⟨kq, x38_1, rfl, HA, HJ1, BK104, HB⟩ := hcut
    cases kq with
    | zero => exact absurd HA.out (by simp [draft_May.j0])
    | succ kj1 =>
      have H := HA.out
      clear HA
      simp only [draft_May.j0] at H
      by_cases c19 : x38_1 = true
      · subst c19
        have H1 : (some false) = some r := by rw [if_pos rfl] at H; exact H
        clear H
        have H := H1
        clear H1
        obtain rfl := Option.some.inj H
        go_wp2
        go_ret
        exact ⟨by first | rfl | (simp [errW_none, errW_some] <;> rfl) | (simp [*, errW_none, errW_some] <;> rfl), by repeat (first | (with_reducible first | exact HB.out | apply below_alloc | apply pw_below_drewN | apply below_drew1 | refine below_set ?_ GE104.out) | exact HB.out)⟩
      · replace c19 := Bool.eq_false_iff.mpr c19
        subst c19
        have H1 : ((money_May.f a0_4 a0_5).bind fun t109 => (if t109 = true then (if a0_5 ≤ 0 then (draft_May.j1 kj1 true a0_0 a0_1 a0_2 a0_3 a0_4 a0_5 a0_6 a0_7 a0_8) else ((draft_isDay.f a0_8).bind fun t110 => (draft_May.j1 kj1 (!t110) a0_0 a0_1 a0_2 a0_3 a0_4 a0_5 a0_6 a0_7 a0_8))) else (draft_May.j1 kj1 true a0_0 a0_1 a0_2 a0_3 a0_4 a0_5 a0_6 a0_7 a0_8))) = some r := by rw [if_neg (show ¬ (false = true) by decide)] at H; exact H
        clear H
        have H := H1
        clear H1
        have HC20 := Aside0.mk H
        clear H
        go_upto_region 3 with (fail)
        go_cut [54] (fun v54 wc => ∃ (kq : Nat) (x54_19 : Bool), v54 = .bool x54_19 ∧ Aside0 (draft_May.j1 kq x54_19 a0_0 a0_1 a0_2 a0_3 a0_4 a0_5 a0_6 a0_7 a0_8 = some r) ∧ Aside0 (kq ≤ kj1) ∧ Aside0 (wc.heap[gb104]? = some (.cells #[.string a0_0, .string a0_1, .string a0_2, .string a0_3, .string a0_4, .int .i64 a0_5, .int .i64 a0_6, .int .i64 a0_7, .int .i64 a0_8] 28 (0, 0))) ∧ Aside0 (Below w.heap.size w wc))
        case first =>
          have H := HC20.out
          clear HC20
          replace H := Option.bind_eq_some_iff.mp H
          obtain ⟨t109, A210, H⟩ := H
          replace H : (if t109 = true then (if a0_5 ≤ 0 then (draft_May.j1 kj1 true a0_0 a0_1 a0_2 a0_3 a0_4 a0_5 a0_6 a0_7 a0_8) else ((draft_isDay.f a0_8).bind fun t110 => (draft_May.j1 kj1 (!t110) a0_0 a0_1 a0_2 a0_3 a0_4 a0_5 a0_6 a0_7 a0_8))) else (draft_May.j1 kj1 true a0_0 a0_1 a0_2 a0_3 a0_4 a0_5 a0_6 a0_7 a0_8)) = some r := H
          have A21 := Aside0.mk A210
          clear A210
          by_cases c22 : t109 = true
          · subst c22
            have H1 : (if a0_5 ≤ 0 then (draft_May.j1 kj1 true a0_0 a0_1 a0_2 a0_3 a0_4 a0_5 a0_6 a0_7 a0_8) else ((draft_isDay.f a0_8).bind fun t110 => (draft_May.j1 kj1 (!t110) a0_0 a0_1 a0_2 a0_3 a0_4 a0_5 a0_6 a0_7 a0_8))) = some r := by rw [if_pos rfl] at H; exact H
            clear H
            have H := H1
            clear H1
            by_cases c23 : a0_5 ≤ 0
            · rw [if_pos c23] at H
              have c23b0 : decide (a0_5 ≤ 0) = true := decide_eq_true c23
              clear c23
              (first | rw [c23b0] | (simp only [i64_w, i32_w]; rw [c23b0]) | skip)
              have H' := Aside0.mk H
              clear H
              have hcz24_0 : wc.cell? ⟨gb104, 0, none⟩ = some (.string a0_0) := (blk_cell BK104.out 0).trans rfl
              have hcz24_1 : wc.cell? ⟨gb104, 1, none⟩ = some (.string a0_1) := (blk_cell BK104.out 1).trans rfl
              have hcz24_2 : wc.cell? ⟨gb104, 2, none⟩ = some (.string a0_2) := (blk_cell BK104.out 2).trans rfl
              have hcz24_3 : wc.cell? ⟨gb104, 3, none⟩ = some (.string a0_3) := (blk_cell BK104.out 3).trans rfl
              have hcz24_4 : wc.cell? ⟨gb104, 4, none⟩ = some (.string a0_4) := (blk_cell BK104.out 4).trans rfl
              have hcz24_5 : wc.cell? ⟨gb104, 5, none⟩ = some (.int .i64 a0_5) := (blk_cell BK104.out 5).trans rfl
              have hcz24_6 : wc.cell? ⟨gb104, 6, none⟩ = some (.int .i64 a0_6) := (blk_cell BK104.out 6).trans rfl
              have hcz24_7 : wc.cell? ⟨gb104, 7, none⟩ = some (.int .i64 a0_7) := (blk_cell BK104.out 7).trans rfl
              have hcz24_8 : wc.cell? ⟨gb104, 8, none⟩ = some (.int .i64 a0_8) := (blk_cell BK104.out 8).trans rfl
              have hfz24_0 := blk_frozen BK104.out 0
              have hfz24_1 := blk_frozen BK104.out 1
              have hfz24_2 := blk_frozen BK104.out 2
              have hfz24_3 := blk_frozen BK104.out 3
              have hfz24_4 := blk_frozen BK104.out 4
              have hfz24_5 := blk_frozen BK104.out 5
              have hfz24_6 := blk_frozen BK104.out 6
              have hfz24_7 := blk_frozen BK104.out 7
              have hfz24_8 := blk_frozen BK104.out 8
              go_wp2_with (first | ((with_reducible refine gate_callee (f := 24) rfl ?_); refine goesL_ (some 41) rfl rfl Tryz.func24 (by kernel_rfl) rfl #[.agg #[.string a0_4, .int .i64 a0_5]] rfl (by (try simp only [List.map_toArray, List.map_cons, List.map_nil]); first | done | rfl | (simp only [List.length_drop, List.length_take]; rfl)) ?_; (with_reducible refine (money_May.calls a0_4 a0_5 true _ A21.out).mono ?_); rintro e w25 ⟨rfl, hb⟩; refine ⟨_, rfl, ?_⟩; have n0_ := Aside0.mk (blk_below (g := gb104) (o := .cells #[.string a0_0, .string a0_1, .string a0_2, .string a0_3, .string a0_4, .int .i64 a0_5, .int .i64 a0_6, .int .i64 a0_7, .int .i64 a0_8] 28 (0, 0)) (by (with_reducible repeat (first | refine blk_drewN ?_ _ | refine blk_drew ?_ | refine blk_alloc ?_ _)); exact BK104.out) hb); have n1_ := Aside0.mk (below_step (by repeat (first | (with_reducible first | exact HB.out | apply below_alloc | apply pw_below_drewN | apply below_drew1 | refine below_set ?_ GE104.out) | exact HB.out)) hb); clear BK104; clear HB; have BK104 := n0_; have HB := n1_; clear n0_ n1_; (try clear hb); (try clear hb2); (try clear hk); (try clear hi); have hcz26_0 : w25.cell? ⟨gb104, 0, none⟩ = some (.string a0_0) := (blk_cell BK104.out 0).trans rfl; have hcz26_1 : w25.cell? ⟨gb104, 1, none⟩ = some (.string a0_1) := (blk_cell BK104.out 1).trans rfl; have hcz26_2 : w25.cell? ⟨gb104, 2, none⟩ = some (.string a0_2) := (blk_cell BK104.out 2).trans rfl; have hcz26_3 : w25.cell? ⟨gb104, 3, none⟩ = some (.string a0_3) := (blk_cell BK104.out 3).trans rfl; have hcz26_4 : w25.cell? ⟨gb104, 4, none⟩ = some (.string a0_4) := (blk_cell BK104.out 4).trans rfl; have hcz26_5 : w25.cell? ⟨gb104, 5, none⟩ = some (.int .i64 a0_5) := (blk_cell BK104.out 5).trans rfl; have hcz26_6 : w25.cell? ⟨gb104, 6, none⟩ = some (.int .i64 a0_6) := (blk_cell BK104.out 6).trans rfl; have hcz26_7 : w25.cell? ⟨gb104, 7, none⟩ = some (.int .i64 a0_7) := (blk_cell BK104.out 7).trans rfl; have hcz26_8 : w25.cell? ⟨gb104, 8, none⟩ = some (.int .i64 a0_8) := (blk_cell BK104.out 8).trans rfl; have hfz26_0 := blk_frozen BK104.out 0; have hfz26_1 := blk_frozen BK104.out 1; have hfz26_2 := blk_frozen BK104.out 2; have hfz26_3 := blk_frozen BK104.out 3; have hfz26_4 := blk_frozen BK104.out 4; have hfz26_5 := blk_frozen BK104.out 5; have hfz26_6 := blk_frozen BK104.out 6; have hfz26_7 := blk_frozen BK104.out 7; have hfz26_8 := blk_frozen BK104.out 8))
              go_meet
              case rel => exact ⟨_, (true), (by first | rfl | (simp; done) | (simp [*]; done)), H', ⟨by have := HJ1.out; first | omega | exact Nat.le_refl _⟩, ⟨by (with_reducible repeat (first | refine blk_drewN ?_ _ | refine blk_drew ?_ | refine blk_alloc ?_ _)); exact BK104.out⟩, ⟨by repeat (first | (with_reducible first | exact HB.out | apply below_alloc | apply pw_below_drewN | apply below_drew1 | refine below_set ?_ GE104.out) | exact HB.out)⟩⟩
            · rw [if_neg c23] at H
              have c23b0 : decide (a0_5 ≤ 0) = false := decide_eq_false c23
              clear c23
              (first | rw [c23b0] | (simp only [i64_w, i32_w]; rw [c23b0]) | skip)
              replace H := Option.bind_eq_some_iff.mp H
              obtain ⟨t110, A270, H⟩ := H
              replace H : (draft_May.j1 kj1 (!t110) a0_0 a0_1 a0_2 a0_3 a0_4 a0_5 a0_6 a0_7 a0_8) = some r := H
              have A27 := Aside0.mk A270
              clear A270
              have H' := Aside0.mk H
              clear H
              have hcz28_0 : wc.cell? ⟨gb104, 0, none⟩ = some (.string a0_0) := (blk_cell BK104.out 0).trans rfl
              have hcz28_1 : wc.cell? ⟨gb104, 1, none⟩ = some (.string a0_1) := (blk_cell BK104.out 1).trans rfl
              have hcz28_2 : wc.cell? ⟨gb104, 2, none⟩ = some (.string a0_2) := (blk_cell BK104.out 2).trans rfl
              have hcz28_3 : wc.cell? ⟨gb104, 3, none⟩ = some (.string a0_3) := (blk_cell BK104.out 3).trans rfl
              have hcz28_4 : wc.cell? ⟨gb104, 4, none⟩ = some (.string a0_4) := (blk_cell BK104.out 4).trans rfl
              have hcz28_5 : wc.cell? ⟨gb104, 5, none⟩ = some (.int .i64 a0_5) := (blk_cell BK104.out 5).trans rfl
              have hcz28_6 : wc.cell? ⟨gb104, 6, none⟩ = some (.int .i64 a0_6) := (blk_cell BK104.out 6).trans rfl
              have hcz28_7 : wc.cell? ⟨gb104, 7, none⟩ = some (.int .i64 a0_7) := (blk_cell BK104.out 7).trans rfl
              have hcz28_8 : wc.cell? ⟨gb104, 8, none⟩ = some (.int .i64 a0_8) := (blk_cell BK104.out 8).trans rfl
              have hfz28_0 := blk_frozen BK104.out 0
              have hfz28_1 := blk_frozen BK104.out 1
              have hfz28_2 := blk_frozen BK104.out 2
              have hfz28_3 := blk_frozen BK104.out 3
              have hfz28_4 := blk_frozen BK104.out 4
              have hfz28_5 := blk_frozen BK104.out 5
              have hfz28_6 := blk_frozen BK104.out 6
              have hfz28_7 := blk_frozen BK104.out 7
              have hfz28_8 := blk_frozen BK104.out 8
              go_wp2_with (first | ((with_reducible refine gate_callee (f := 24) rfl ?_); refine goesL_ (some 41) rfl rfl Tryz.func24 (by kernel_rfl) rfl #[.agg #[.string a0_4, .int .i64 a0_5]] rfl (by (try simp only [List.map_toArray, List.map_cons, List.map_nil]); first | done | rfl | (simp only [List.length_drop, List.length_take]; rfl)) ?_; (with_reducible refine (money_May.calls a0_4 a0_5 true _ A21.out).mono ?_); rintro e w29 ⟨rfl, hb⟩; refine ⟨_, rfl, ?_⟩; have n0_ := Aside0.mk (blk_below (g := gb104) (o := .cells #[.string a0_0, .string a0_1, .string a0_2, .string a0_3, .string a0_4, .int .i64 a0_5, .int .i64 a0_6, .int .i64 a0_7, .int .i64 a0_8] 28 (0, 0)) (by (with_reducible repeat (first | refine blk_drewN ?_ _ | refine blk_drew ?_ | refine blk_alloc ?_ _)); exact BK104.out) hb); have n1_ := Aside0.mk (below_step (by repeat (first | (with_reducible first | exact HB.out | apply below_alloc | apply pw_below_drewN | apply below_drew1 | refine below_set ?_ GE104.out) | exact HB.out)) hb); clear BK104; clear HB; have BK104 := n0_; have HB := n1_; clear n0_ n1_; (try clear hb); (try clear hb2); (try clear hk); (try clear hi); have hcz30_0 : w29.cell? ⟨gb104, 0, none⟩ = some (.string a0_0) := (blk_cell BK104.out 0).trans rfl; have hcz30_1 : w29.cell? ⟨gb104, 1, none⟩ = some (.string a0_1) := (blk_cell BK104.out 1).trans rfl; have hcz30_2 : w29.cell? ⟨gb104, 2, none⟩ = some (.string a0_2) := (blk_cell BK104.out 2).trans rfl; have hcz30_3 : w29.cell? ⟨gb104, 3, none⟩ = some (.string a0_3) := (blk_cell BK104.out 3).trans rfl; have hcz30_4 : w29.cell? ⟨gb104, 4, none⟩ = some (.string a0_4) := (blk_cell BK104.out 4).trans rfl; have hcz30_5 : w29.cell? ⟨gb104, 5, none⟩ = some (.int .i64 a0_5) := (blk_cell BK104.out 5).trans rfl; have hcz30_6 : w29.cell? ⟨gb104, 6, none⟩ = some (.int .i64 a0_6) := (blk_cell BK104.out 6).trans rfl; have hcz30_7 : w29.cell? ⟨gb104, 7, none⟩ = some (.int .i64 a0_7) := (blk_cell BK104.out 7).trans rfl; have hcz30_8 : w29.cell? ⟨gb104, 8, none⟩ = some (.int .i64 a0_8) := (blk_cell BK104.out 8).trans rfl; have hfz30_0 := blk_frozen BK104.out 0; have hfz30_1 := blk_frozen BK104.out 1; have hfz30_2 := blk_frozen BK104.out 2; have hfz30_3 := blk_frozen BK104.out 3; have hfz30_4 := blk_frozen BK104.out 4; have hfz30_5 := blk_frozen BK104.out 5; have hfz30_6 := blk_frozen BK104.out 6; have hfz30_7 := blk_frozen BK104.out 7; have hfz30_8 := blk_frozen BK104.out 8) | (go_at_call 25; (with_reducible refine (draft_isDay.calls a0_8 t110 _ A27.out).mono ?_); rintro e w' ⟨rfl, ⟨nd, rfl⟩⟩))
              go_meet
              case rel => exact ⟨_, (!t110), (by first | rfl | (simp; done) | (simp [*]; done)), H', ⟨by have := HJ1.out; first | omega | exact Nat.le_refl _⟩, ⟨by (with_reducible repeat (first | refine blk_drewN ?_ _ | refine blk_drew ?_ | refine blk_alloc ?_ _)); exact BK104.out⟩, ⟨by repeat (first | (with_reducible first | exact HB.out | apply below_alloc | apply pw_below_drewN | apply below_drew1 | refine below_set ?_ GE104.out) | exact HB.out)⟩⟩
          · replace c22 := Bool.eq_false_iff.mpr c22
            subst c22
            have H1 : (draft_May.j1 kj1 true a0_0 a0_1 a0_2 a0_3 a0_4 a0_5 a0_6 a0_7 a0_8) = some r := by rw [if_neg (show ¬ (false = true) by decide)] at H; exact H
            clear H
            have H := H1
            clear H1
            have H' := Aside0.mk H
            clear H
            have hcz31_0 : wc.cell? ⟨gb104, 0, none⟩ = some (.string a0_0) := (blk_cell BK104.out 0).trans rfl
            have hcz31_1 : wc.cell? ⟨gb104, 1, none⟩ = some (.string a0_1) := (blk_cell BK104.out 1).trans rfl
            have hcz31_2 : wc.cell? ⟨gb104, 2, none⟩ = some (.string a0_2) := (blk_cell BK104.out 2).trans rfl
            have hcz31_3 : wc.cell? ⟨gb104, 3, none⟩ = some (.string a0_3) := (blk_cell BK104.out 3).trans rfl
            have hcz31_4 : wc.cell? ⟨gb104, 4, none⟩ = some (.string a0_4) := (blk_cell BK104.out 4).trans rfl
            have hcz31_5 : wc.cell? ⟨gb104, 5, none⟩ = some (.int .i64 a0_5) := (blk_cell BK104.out 5).trans rfl
            have hcz31_6 : wc.cell? ⟨gb104, 6, none⟩ = some (.int .i64 a0_6) := (blk_cell BK104.out 6).trans rfl
            have hcz31_7 : wc.cell? ⟨gb104, 7, none⟩ = some (.int .i64 a0_7) := (blk_cell BK104.out 7).trans rfl
            have hcz31_8 : wc.cell? ⟨gb104, 8, none⟩ = some (.int .i64 a0_8) := (blk_cell BK104.out 8).trans rfl
            have hfz31_0 := blk_frozen BK104.out 0
            have hfz31_1 := blk_frozen BK104.out 1
            have hfz31_2 := blk_frozen BK104.out 2
            have hfz31_3 := blk_frozen BK104.out 3
            have hfz31_4 := blk_frozen BK104.out 4
            have hfz31_5 := blk_frozen BK104.out 5
            have hfz31_6 := blk_frozen BK104.out 6
            have hfz31_7 := blk_frozen BK104.out 7
            have hfz31_8 := blk_frozen BK104.out 8
            go_wp2_with (first | ((with_reducible refine gate_callee (f := 24) rfl ?_); refine goesL_ (some 41) rfl rfl Tryz.func24 (by kernel_rfl) rfl #[.agg #[.string a0_4, .int .i64 a0_5]] rfl (by (try simp only [List.map_toArray, List.map_cons, List.map_nil]); first | done | rfl | (simp only [List.length_drop, List.length_take]; rfl)) ?_; (with_reducible refine (money_May.calls a0_4 a0_5 false _ A21.out).mono ?_); rintro e w32 ⟨rfl, hb⟩; refine ⟨_, rfl, ?_⟩; have n0_ := Aside0.mk (blk_below (g := gb104) (o := .cells #[.string a0_0, .string a0_1, .string a0_2, .string a0_3, .string a0_4, .int .i64 a0_5, .int .i64 a0_6, .int .i64 a0_7, .int .i64 a0_8] 28 (0, 0)) (by (with_reducible repeat (first | refine blk_drewN ?_ _ | refine blk_drew ?_ | refine blk_alloc ?_ _)); exact BK104.out) hb); have n1_ := Aside0.mk (below_step (by repeat (first | (with_reducible first | exact HB.out | apply below_alloc | apply pw_below_drewN | apply below_drew1 | refine below_set ?_ GE104.out) | exact HB.out)) hb); clear BK104; clear HB; have BK104 := n0_; have HB := n1_; clear n0_ n1_; (try clear hb); (try clear hb2); (try clear hk); (try clear hi)))
            go_meet
            case rel => exact ⟨_, (true), (by first | rfl | (simp; done) | (simp [*]; done)), H', ⟨by have := HJ1.out; first | omega | exact Nat.le_refl _⟩, ⟨by (with_reducible repeat (first | refine blk_drewN ?_ _ | refine blk_drew ?_ | refine blk_alloc ?_ _)); exact BK104.out⟩, ⟨by repeat (first | (with_reducible first | exact HB.out | apply below_alloc | apply pw_below_drewN | apply below_drew1 | refine below_set ?_ GE104.out) | exact HB.out)⟩⟩
        case rest =>
          clear HC20
          try clear c1
          try clear c2
          try clear p2
          try clear c5
          try clear c7
          try clear c8
          try clear c9
          try clear c11
          try clear c12
          try clear c12b0
          try clear c12b1
          try clear c19
          try clear c22
          try clear c23
          try clear c23b0
          try clear c24
          try clear hcz13_0
          try clear hcz13_1
          try clear hcz13_2
          try clear hcz13_3
          try clear hcz13_4
          try clear hcz13_5
          try clear hcz13_6
          try clear hcz13_7
          try clear hcz13_8
          try clear hcz14_0
          try clear hcz14_1
          try clear hcz14_2
          try clear hcz14_3
          try clear hcz14_4
          try clear hcz14_5
          try clear hcz14_6
          try clear hcz14_7
          try clear hcz14_8
          try clear hcz15_0
          try clear hcz15_1
          try clear hcz15_2
          try clear hcz15_3
          try clear hcz15_4
          try clear hcz15_5
          try clear hcz15_6
          try clear hcz15_7
          try clear hcz15_8
          try clear hcz16_0
          try clear hcz16_1
          try clear hcz16_2
          try clear hcz16_3
          try clear hcz16_4
          try clear hcz16_5
          try clear hcz16_6
          try clear hcz16_7
          try clear hcz16_8
          try clear hcz17_0
          try clear hcz17_1
          try clear hcz17_2
          try clear hcz17_3
          try clear hcz17_4
          try clear hcz17_5
          try clear hcz17_6
          try clear hcz17_7
          try clear hcz17_8
          try clear hcz18_0
          try clear hcz18_1
          try clear hcz18_2
          try clear hcz18_3
          try clear hcz18_4
          try clear hcz18_5
          try clear hcz18_6
          try clear hcz18_7
          try clear hcz18_8
          try clear hcz24_0
          try clear hcz24_1
          try clear hcz24_2
          try clear hcz24_3
          try clear hcz24_4
          try clear hcz24_5
          try clear hcz24_6
          try clear hcz24_7
          try clear hcz24_8
          try clear hcz26_0
          try clear hcz26_1
          try clear hcz26_2
          try clear hcz26_3
          try clear hcz26_4
          try clear hcz26_5
          try clear hcz26_6
          try clear hcz26_7
          try clear hcz26_8
          try clear hcz28_0
          try clear hcz28_1
          try clear hcz28_2
          try clear hcz28_3
          try clear hcz28_4
          try clear hcz28_5
          try clear hcz28_6
          try clear hcz28_7
          try clear hcz28_8
          try clear hcz30_0
          try clear hcz30_1
          try clear hcz30_2
          try clear hcz30_3
          try clear hcz30_4
          try clear hcz30_5
          try clear hcz30_6
          try clear hcz30_7
          try clear hcz30_8
          try clear hcz31_0
          try clear hcz31_1
          try clear hcz31_2
          try clear hcz31_3
          try clear hcz31_4
          try clear hcz31_5
          try clear hcz31_6
          try clear hcz31_7
          try clear hcz31_8
          try clear hfz13_0
          try clear hfz13_1
          try clear hfz13_2
          try clear hfz13_3
          try clear hfz13_4
          try clear hfz13_5
          try clear hfz13_6
          try clear hfz13_7
          try clear hfz13_8
          try clear hfz14_0
          try clear hfz14_1
          try clear hfz14_2
          try clear hfz14_3
          try clear hfz14_4
          try clear hfz14_5
          try clear hfz14_6
          try clear hfz14_7
          try clear hfz14_8
          try clear hfz15_0
          try clear hfz15_1
          try clear hfz15_2
          try clear hfz15_3
          try clear hfz15_4
          try clear hfz15_5
          try clear hfz15_6
          try clear hfz15_7
          try clear hfz15_8
          try clear hfz16_0
          try clear hfz16_1
          try clear hfz16_2
          try clear hfz16_3
          try clear hfz16_4
          try clear hfz16_5
          try clear hfz16_6
          try clear hfz16_7
          try clear hfz16_8
          try clear hfz17_0
          try clear hfz17_1
          try clear hfz17_2
          try clear hfz17_3
          try clear hfz17_4
          try clear hfz17_5
          try clear hfz17_6
          try clear hfz17_7
          try clear hfz17_8
          try clear hfz18_0
          try clear hfz18_1
          try clear hfz18_2
          try clear hfz18_3
          try clear hfz18_4
          try clear hfz18_5
          try clear hfz18_6
          try clear hfz18_7
          try clear hfz18_8
          try clear hfz24_0
          try clear hfz24_1
          try clear hfz24_2
          try clear hfz24_3
          try clear hfz24_4
          try clear hfz24_5
          try clear hfz24_6
          try clear hfz24_7
          try clear hfz24_8
          try clear hfz26_0
          try clear hfz26_1
          try clear hfz26_2
          try clear hfz26_3
          try clear hfz26_4
          try clear hfz26_5
          try clear hfz26_6
          try clear hfz26_7
          try clear hfz26_8
          try clear hfz28_0
          try clear hfz28_1
          try clear hfz28_2
          try clear hfz28_3
          try clear hfz28_4
          try clear hfz28_5
          try clear hfz28_6
          try clear hfz28_7
          try clear hfz28_8
          try clear hfz30_0
          try clear hfz30_1
          try clear hfz30_2
          try clear hfz30_3
          try clear hfz30_4
          try clear hfz30_5
          try clear hfz30_6
          try clear hfz30_7
          try clear hfz30_8
          try clear hfz31_0
          try clear hfz31_1
          try clear hfz31_2
          try clear hfz31_3
          try clear hfz31_4
          try clear hfz31_5
          try clear hfz31_6
          try clear hfz31_7
          try clear hfz31_8
          try clear p2
          obtain ⟨kq, x54_19, rfl, HA, HJ19, BK104, HB⟩ := hcut
          cases kq with
          | zero => exact absurd HA.out (by simp [draft_May.j1])
          | succ kj19 =>
            have H := HA.out
            clear HA
            simp only [draft_May.j1] at H
            by_cases c33 : x54_19 = true
            · subst c33
              have H1 : (some false) = some r := by rw [if_pos rfl] at H; exact H
              clear H
              have H := H1
              clear H1
              obtain rfl := Option.some.inj H
              go_wp2
              go_ret
              exact ⟨by first | rfl | (simp [errW_none, errW_some] <;> rfl) | (simp [*, errW_none, errW_some] <;> rfl), by repeat (first | (with_reducible first | exact HB.out | apply below_alloc | apply pw_below_drewN | apply below_drew1 | refine below_set ?_ GE104.out) | exact HB.out)⟩
            · replace c33 := Bool.eq_false_iff.mpr c33
              subst c33
              have H1 : (if a0_6 = 0 then (some (a0_7 == 0)) else (if a0_6 = 1 then (if a0_7 ≥ 1 then (some (decide (a0_7 ≤ 1000))) else (some false)) else (if a0_6 = 2 then (if a0_7 ≥ 1 then (some (decide (a0_7 ≤ 1000))) else (some false)) else (some false)))) = some r := by rw [if_neg (show ¬ (false = true) by decide)] at H; exact H
              clear H
              have H := H1
              clear H1
              by_cases c34 : a0_6 = 0
              · rw [if_pos c34] at H
                have c34b0 : (a0_6 == 0) = true := beq_iff_eq.mpr c34
                have c34b1 : (a0_6 != 0) = false := bne_eq_false_iff_eq.mpr c34
                clear c34
                obtain rfl := Option.some.inj H
                have hcz35_0 : wc.cell? ⟨gb104, 0, none⟩ = some (.string a0_0) := (blk_cell BK104.out 0).trans rfl
                have hcz35_1 : wc.cell? ⟨gb104, 1, none⟩ = some (.string a0_1) := (blk_cell BK104.out 1).trans rfl
                have hcz35_2 : wc.cell? ⟨gb104, 2, none⟩ = some (.string a0_2) := (blk_cell BK104.out 2).trans rfl
                have hcz35_3 : wc.cell? ⟨gb104, 3, none⟩ = some (.string a0_3) := (blk_cell BK104.out 3).trans rfl
                have hcz35_4 : wc.cell? ⟨gb104, 4, none⟩ = some (.string a0_4) := (blk_cell BK104.out 4).trans rfl
                have hcz35_5 : wc.cell? ⟨gb104, 5, none⟩ = some (.int .i64 a0_5) := (blk_cell BK104.out 5).trans rfl
                have hcz35_6 : wc.cell? ⟨gb104, 6, none⟩ = some (.int .i64 a0_6) := (blk_cell BK104.out 6).trans rfl
                have hcz35_7 : wc.cell? ⟨gb104, 7, none⟩ = some (.int .i64 a0_7) := (blk_cell BK104.out 7).trans rfl
                have hcz35_8 : wc.cell? ⟨gb104, 8, none⟩ = some (.int .i64 a0_8) := (blk_cell BK104.out 8).trans rfl
                have hfz35_0 := blk_frozen BK104.out 0
                have hfz35_1 := blk_frozen BK104.out 1
                have hfz35_2 := blk_frozen BK104.out 2
                have hfz35_3 := blk_frozen BK104.out 3
                have hfz35_4 := blk_frozen BK104.out 4
                have hfz35_5 := blk_frozen BK104.out 5
                have hfz35_6 := blk_frozen BK104.out 6
                have hfz35_7 := blk_frozen BK104.out 7
                have hfz35_8 := blk_frozen BK104.out 8
                go_wp2
                go_ret
                exact ⟨by first | rfl | (simp [errW_none, errW_some] <;> rfl) | (simp [*, errW_none, errW_some] <;> rfl), by repeat (first | (with_reducible first | exact HB.out | apply below_alloc | apply pw_below_drewN | apply below_drew1 | refine below_set ?_ GE104.out) | exact HB.out)⟩
              · rw [if_neg c34] at H
                have c34b0 : (a0_6 == 0) = false := beq_eq_false_iff_ne.mpr c34
                have c34b1 : (a0_6 != 0) = true := bne_iff_ne.mpr c34
                by_cases c36 : a0_6 = 1
                · rw [if_pos c36] at H
                  have c36b0 : (a0_6 == 1) = true := beq_iff_eq.mpr c36
                  have c36b1 : (a0_6 != 1) = false := bne_eq_false_iff_eq.mpr c36
                  clear c36
                  by_cases c37 : a0_7 ≥ 1
                  · rw [if_pos c37] at H
                    have c37b0 : decide (1 ≤ a0_7) = true := decide_eq_true c37
                    clear c37
                    obtain rfl := Option.some.inj H
                    have hcz38_0 : wc.cell? ⟨gb104, 0, none⟩ = some (.string a0_0) := (blk_cell BK104.out 0).trans rfl
                    have hcz38_1 : wc.cell? ⟨gb104, 1, none⟩ = some (.string a0_1) := (blk_cell BK104.out 1).trans rfl
                    have hcz38_2 : wc.cell? ⟨gb104, 2, none⟩ = some (.string a0_2) := (blk_cell BK104.out 2).trans rfl
                    have hcz38_3 : wc.cell? ⟨gb104, 3, none⟩ = some (.string a0_3) := (blk_cell BK104.out 3).trans rfl
                    have hcz38_4 : wc.cell? ⟨gb104, 4, none⟩ = some (.string a0_4) := (blk_cell BK104.out 4).trans rfl
                    have hcz38_5 : wc.cell? ⟨gb104, 5, none⟩ = some (.int .i64 a0_5) := (blk_cell BK104.out 5).trans rfl
                    have hcz38_6 : wc.cell? ⟨gb104, 6, none⟩ = some (.int .i64 a0_6) := (blk_cell BK104.out 6).trans rfl
                    have hcz38_7 : wc.cell? ⟨gb104, 7, none⟩ = some (.int .i64 a0_7) := (blk_cell BK104.out 7).trans rfl
                    have hcz38_8 : wc.cell? ⟨gb104, 8, none⟩ = some (.int .i64 a0_8) := (blk_cell BK104.out 8).trans rfl
                    have hfz38_0 := blk_frozen BK104.out 0
                    have hfz38_1 := blk_frozen BK104.out 1
                    have hfz38_2 := blk_frozen BK104.out 2
                    have hfz38_3 := blk_frozen BK104.out 3
                    have hfz38_4 := blk_frozen BK104.out 4
                    have hfz38_5 := blk_frozen BK104.out 5
                    have hfz38_6 := blk_frozen BK104.out 6
                    have hfz38_7 := blk_frozen BK104.out 7
                    have hfz38_8 := blk_frozen BK104.out 8
                    go_wp2
                    go_ret
                    exact ⟨by first | rfl | (simp [errW_none, errW_some] <;> rfl) | (simp [*, errW_none, errW_some] <;> rfl), by repeat (first | (with_reducible first | exact HB.out | apply below_alloc | apply pw_below_drewN | apply below_drew1 | refine below_set ?_ GE104.out) | exact HB.out)⟩
                  · rw [if_neg c37] at H
                    have c37b0 : decide (1 ≤ a0_7) = false := decide_eq_false c37
                    clear c37
                    obtain rfl := Option.some.inj H
                    have hcz39_0 : wc.cell? ⟨gb104, 0, none⟩ = some (.string a0_0) := (blk_cell BK104.out 0).trans rfl
                    have hcz39_1 : wc.cell? ⟨gb104, 1, none⟩ = some (.string a0_1) := (blk_cell BK104.out 1).trans rfl
                    have hcz39_2 : wc.cell? ⟨gb104, 2, none⟩ = some (.string a0_2) := (blk_cell BK104.out 2).trans rfl
                    have hcz39_3 : wc.cell? ⟨gb104, 3, none⟩ = some (.string a0_3) := (blk_cell BK104.out 3).trans rfl
                    have hcz39_4 : wc.cell? ⟨gb104, 4, none⟩ = some (.string a0_4) := (blk_cell BK104.out 4).trans rfl
                    have hcz39_5 : wc.cell? ⟨gb104, 5, none⟩ = some (.int .i64 a0_5) := (blk_cell BK104.out 5).trans rfl
                    have hcz39_6 : wc.cell? ⟨gb104, 6, none⟩ = some (.int .i64 a0_6) := (blk_cell BK104.out 6).trans rfl
                    have hcz39_7 : wc.cell? ⟨gb104, 7, none⟩ = some (.int .i64 a0_7) := (blk_cell BK104.out 7).trans rfl
                    have hcz39_8 : wc.cell? ⟨gb104, 8, none⟩ = some (.int .i64 a0_8) := (blk_cell BK104.out 8).trans rfl
                    have hfz39_0 := blk_frozen BK104.out 0
                    have hfz39_1 := blk_frozen BK104.out 1
                    have hfz39_2 := blk_frozen BK104.out 2
                    have hfz39_3 := blk_frozen BK104.out 3
                    have hfz39_4 := blk_frozen BK104.out 4
                    have hfz39_5 := blk_frozen BK104.out 5
                    have hfz39_6 := blk_frozen BK104.out 6
                    have hfz39_7 := blk_frozen BK104.out 7
                    have hfz39_8 := blk_frozen BK104.out 8
                    go_wp2
                    go_ret
                    exact ⟨by first | rfl | (simp [errW_none, errW_some] <;> rfl) | (simp [*, errW_none, errW_some] <;> rfl), by repeat (first | (with_reducible first | exact HB.out | apply below_alloc | apply pw_below_drewN | apply below_drew1 | refine below_set ?_ GE104.out) | exact HB.out)⟩
                · rw [if_neg c36] at H
                  have c36b0 : (a0_6 == 1) = false := beq_eq_false_iff_ne.mpr c36
                  have c36b1 : (a0_6 != 1) = true := bne_iff_ne.mpr c36
                  by_cases c40 : a0_6 = 2
                  · rw [if_pos c40] at H
                    have c40b0 : (a0_6 == 2) = true := beq_iff_eq.mpr c40
                    have c40b1 : (a0_6 != 2) = false := bne_eq_false_iff_eq.mpr c40
                    clear c40
                    by_cases c41 : a0_7 ≥ 1
                    · rw [if_pos c41] at H
                      have c41b0 : decide (1 ≤ a0_7) = true := decide_eq_true c41
                      clear c41
                      obtain rfl := Option.some.inj H
                      have hcz42_0 : wc.cell? ⟨gb104, 0, none⟩ = some (.string a0_0) := (blk_cell BK104.out 0).trans rfl
                      have hcz42_1 : wc.cell? ⟨gb104, 1, none⟩ = some (.string a0_1) := (blk_cell BK104.out 1).trans rfl
                      have hcz42_2 : wc.cell? ⟨gb104, 2, none⟩ = some (.string a0_2) := (blk_cell BK104.out 2).trans rfl
                      have hcz42_3 : wc.cell? ⟨gb104, 3, none⟩ = some (.string a0_3) := (blk_cell BK104.out 3).trans rfl
                      have hcz42_4 : wc.cell? ⟨gb104, 4, none⟩ = some (.string a0_4) := (blk_cell BK104.out 4).trans rfl
                      have hcz42_5 : wc.cell? ⟨gb104, 5, none⟩ = some (.int .i64 a0_5) := (blk_cell BK104.out 5).trans rfl
                      have hcz42_6 : wc.cell? ⟨gb104, 6, none⟩ = some (.int .i64 a0_6) := (blk_cell BK104.out 6).trans rfl
                      have hcz42_7 : wc.cell? ⟨gb104, 7, none⟩ = some (.int .i64 a0_7) := (blk_cell BK104.out 7).trans rfl
                      have hcz42_8 : wc.cell? ⟨gb104, 8, none⟩ = some (.int .i64 a0_8) := (blk_cell BK104.out 8).trans rfl
                      have hfz42_0 := blk_frozen BK104.out 0
                      have hfz42_1 := blk_frozen BK104.out 1
                      have hfz42_2 := blk_frozen BK104.out 2
                      have hfz42_3 := blk_frozen BK104.out 3
                      have hfz42_4 := blk_frozen BK104.out 4
                      have hfz42_5 := blk_frozen BK104.out 5
                      have hfz42_6 := blk_frozen BK104.out 6
                      have hfz42_7 := blk_frozen BK104.out 7
                      have hfz42_8 := blk_frozen BK104.out 8
                      go_wp2
                      go_ret
                      exact ⟨by first | rfl | (simp [errW_none, errW_some] <;> rfl) | (simp [*, errW_none, errW_some] <;> rfl), by repeat (first | (with_reducible first | exact HB.out | apply below_alloc | apply pw_below_drewN | apply below_drew1 | refine below_set ?_ GE104.out) | exact HB.out)⟩
                    · rw [if_neg c41] at H
                      have c41b0 : decide (1 ≤ a0_7) = false := decide_eq_false c41
                      clear c41
                      obtain rfl := Option.some.inj H
                      have hcz43_0 : wc.cell? ⟨gb104, 0, none⟩ = some (.string a0_0) := (blk_cell BK104.out 0).trans rfl
                      have hcz43_1 : wc.cell? ⟨gb104, 1, none⟩ = some (.string a0_1) := (blk_cell BK104.out 1).trans rfl
                      have hcz43_2 : wc.cell? ⟨gb104, 2, none⟩ = some (.string a0_2) := (blk_cell BK104.out 2).trans rfl
                      have hcz43_3 : wc.cell? ⟨gb104, 3, none⟩ = some (.string a0_3) := (blk_cell BK104.out 3).trans rfl
                      have hcz43_4 : wc.cell? ⟨gb104, 4, none⟩ = some (.string a0_4) := (blk_cell BK104.out 4).trans rfl
                      have hcz43_5 : wc.cell? ⟨gb104, 5, none⟩ = some (.int .i64 a0_5) := (blk_cell BK104.out 5).trans rfl
                      have hcz43_6 : wc.cell? ⟨gb104, 6, none⟩ = some (.int .i64 a0_6) := (blk_cell BK104.out 6).trans rfl
                      have hcz43_7 : wc.cell? ⟨gb104, 7, none⟩ = some (.int .i64 a0_7) := (blk_cell BK104.out 7).trans rfl
                      have hcz43_8 : wc.cell? ⟨gb104, 8, none⟩ = some (.int .i64 a0_8) := (blk_cell BK104.out 8).trans rfl
                      have hfz43_0 := blk_frozen BK104.out 0
                      have hfz43_1 := blk_frozen BK104.out 1
                      have hfz43_2 := blk_frozen BK104.out 2
                      have hfz43_3 := blk_frozen BK104.out 3
                      have hfz43_4 := blk_frozen BK104.out 4
                      have hfz43_5 := blk_frozen BK104.out 5
                      have hfz43_6 := blk_frozen BK104.out 6
                      have hfz43_7 := blk_frozen BK104.out 7
                      have hfz43_8 := blk_frozen BK104.out 8
                      go_wp2
                      go_ret
                      exact ⟨by first | rfl | (simp [errW_none, errW_some] <;> rfl) | (simp [*, errW_none, errW_some] <;> rfl), by repeat (first | (with_reducible first | exact HB.out | apply below_alloc | apply pw_below_drewN | apply below_drew1 | refine below_set ?_ GE104.out) | exact HB.out)⟩
                  · rw [if_neg c40] at H
                    have c40b0 : (a0_6 == 2) = false := beq_eq_false_iff_ne.mpr c40
                    have c40b1 : (a0_6 != 2) = true := bne_iff_ne.mpr c40
                    obtain rfl := Option.some.inj H
                    have hcz44_0 : wc.cell? ⟨gb104, 0, none⟩ = some (.string a0_0) := (blk_cell BK104.out 0).trans rfl
                    have hcz44_1 : wc.cell? ⟨gb104, 1, none⟩ = some (.string a0_1) := (blk_cell BK104.out 1).trans rfl
                    have hcz44_2 : wc.cell? ⟨gb104, 2, none⟩ = some (.string a0_2) := (blk_cell BK104.out 2).trans rfl
                    have hcz44_3 : wc.cell? ⟨gb104, 3, none⟩ = some (.string a0_3) := (blk_cell BK104.out 3).trans rfl
                    have hcz44_4 : wc.cell? ⟨gb104, 4, none⟩ = some (.string a0_4) := (blk_cell BK104.out 4).trans rfl
                    have hcz44_5 : wc.cell? ⟨gb104, 5, none⟩ = some (.int .i64 a0_5) := (blk_cell BK104.out 5).trans rfl
                    have hcz44_6 : wc.cell? ⟨gb104, 6, none⟩ = some (.int .i64 a0_6) := (blk_cell BK104.out 6).trans rfl
                    have hcz44_7 : wc.cell? ⟨gb104, 7, none⟩ = some (.int .i64 a0_7) := (blk_cell BK104.out 7).trans rfl
                    have hcz44_8 : wc.cell? ⟨gb104, 8, none⟩ = some (.int .i64 a0_8) := (blk_cell BK104.out 8).trans rfl
                    have hfz44_0 := blk_frozen BK104.out 0
                    have hfz44_1 := blk_frozen BK104.out 1
                    have hfz44_2 := blk_frozen BK104.out 2
                    have hfz44_3 := blk_frozen BK104.out 3
                    have hfz44_4 := blk_frozen BK104.out 4
                    have hfz44_5 := blk_frozen BK104.out 5
                    have hfz44_6 := blk_frozen BK104.out 6
                    have hfz44_7 := blk_frozen BK104.out 7
                    have hfz44_8 := blk_frozen BK104.out 8
                    go_wp2
                    go_ret
                    exact ⟨by first | rfl | (simp [errW_none, errW_some] <;> rfl) | (simp [*, errW_none, errW_some] <;> rfl), by repeat (first | (with_reducible first | exact HB.out | apply below_alloc | apply pw_below_drewN | apply below_drew1 | refine below_set ?_ GE104.out) | exact HB.out)⟩

end Go.Proofs.YtcmjgkmnbenniaaGreatDoor.X
