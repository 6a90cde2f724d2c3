-- Written by wip/xprint.py (this session) over the kit's print.py
import Derived.Test.YtcmjgkmnbenniaaXx0
namespace Go.Proofs.Ytcmjgkmnbenniaa.X
open Go.RowKit Go.Proofs.Ytcmjgkmnbenniaa.Ext Go.Proofs.YtcmjgkmnbenniaaW.PrintWords Go.Proofs.YtcmjgkmnbenniaaW.PrintLast Go.Proofs.YtcmjgkmnbenniaaW.PrintMore
attribute [local go_sem] max2_int min2_int max_two min_two max_three min_three max_four min_four   -- for this text's walks alone
set_option linter.unusedVariables false
set_option linter.unusedSimpArgs false

/-! ### supercargoref38_Put: function 13 -/
def supercargoref38_Put.l0 : Nat → List ByteArray → ByteArray → Int → Option (List ByteArray)
  | 0, _, _, _ => none
  | k + 1, x0, x1, x5 => if x5 < (x0.length : Int) then (if 0 ≤ x5 then (if (Op.bytesLess ((rdOf ByteArray.empty x0 x5).toList) x1.toList) = true then (supercargoref38_Put.l0 k x0 x1 (wrap64 (x5 + 1))) else (if (rdOf ByteArray.empty x0 x5).toList = x1.toList then (some x0) else ((some (([] : List ByteArray) : List ByteArray)).bind fun y243 => (if x5 ≤ (x0.length : Int) then ((some (x0.take (x5 : Int).toNat : List ByteArray)).bind fun y246 => (if y243.length + y246.length < 8796093022208 then ((some (y243 ++ y246 : List ByteArray)).bind fun y250 => (if y250.length < 8796093022208 then ((some (y250 ++ [x1] : List ByteArray)).bind fun y253 => ((some (x0.drop (x5 : Int).toNat : List ByteArray)).bind fun y256 => (if y253.length + y256.length < 8796093022208 then (some (y253 ++ y256)) else (none)))) else (none))) else (none))) else (none))))) else (none)) else ((some (([] : List ByteArray) : List ByteArray)).bind fun y263 => (if 0 ≤ x5 then (if x5 ≤ (x0.length : Int) then ((some (x0.take (x5 : Int).toNat : List ByteArray)).bind fun y266 => (if y263.length + y266.length < 8796093022208 then ((some (y263 ++ y266 : List ByteArray)).bind fun y270 => (if y270.length < 8796093022208 then ((some (y270 ++ [x1] : List ByteArray)).bind fun y273 => ((some (x0.drop (x5 : Int).toNat : List ByteArray)).bind fun y276 => (if y273.length + y276.length < 8796093022208 then (some (y273 ++ y276)) else (none)))) else (none))) else (none))) else (none)) else (none)))
def supercargoref38_Put.f (k : Nat) (l0 : List ByteArray) (a1 : ByteArray) : Option (List ByteArray) := supercargoref38_Put.l0 k l0 a1 0
theorem supercargoref38_Put.mono_l : ∀ k, (∀ y0 y1 y2, LeO (supercargoref38_Put.l0 k y0 y1 y2) (supercargoref38_Put.l0 (k + 1) y0 y1 y2))
  | 0 => fun _ _ _ r h => by simp [supercargoref38_Put.l0] at h
  | k + 1 => by
    have ih0 := supercargoref38_Put.mono_l k
    · intro y0 y1 y2
      unfold supercargoref38_Put.l0
      repeat' first
      | (with_reducible exact ih0 _ _ _)
      | (with_reducible exact LeO.refl _)
      | (with_reducible exact LeO.none _)
      | (with_reducible refine LeO.ite ?_ ?_)
      | (with_reducible refine LeO.bind ?_ (fun _ => ?_))
      | exact ih0 _ _ _
      | exact LeO.none _
      | refine LeO.ite ?_ ?_
      | refine LeO.bind ?_ (fun _ => ?_)
theorem supercargoref38_Put.mono : ∀ a0 a1 k, LeO (supercargoref38_Put.f k a0 a1) (supercargoref38_Put.f (k + 1) a0 a1) := by
  intro a0 a1 k
  have ih0 := supercargoref38_Put.mono_l k
  unfold supercargoref38_Put.f
  repeat' first
      | (with_reducible exact ih0 _ _ _)
      | (with_reducible exact LeO.refl _)
      | (with_reducible exact LeO.none _)
      | (with_reducible refine LeO.ite ?_ ?_)
      | (with_reducible refine LeO.bind ?_ (fun _ => ?_))
      | exact ih0 _ _ _
      | exact LeO.none _
      | refine LeO.ite ?_ ?_
      | refine LeO.bind ?_ (fun _ => ?_)
set_option maxHeartbeats 8000000 in
set_option maxRecDepth 100000 in
theorem supercargoref38_Put.calls (k : Nat) (P0_ : Nat → Prop) (u9000_ : Value) (l0 : List ByteArray) (a1 : ByteArray) (r : List ByteArray) (w0 w : World) (hB : Below w0.heap.size w0 w) (ho0 : Kd.R Kd.string 9 w w0.heap.size P0_ u9000_ l0) (h : supercargoref38_Put.f k l0 a1 = some r) :
    Calls Try.prog 13 #[u9000_, .string a1] w fun e w' => ∃ v0_ : Value, e = .returned (v0_) ∧ Kd.R Kd.string 9 w' w0.heap.size (fun k_ => (P0_ k_ ∨ w.heap.size ≤ k_)) v0_ r ∧ Below w0.heap.size w0 w' ∧ Kept w w' (fun k_ => P0_ k_) := by
  have HO0 := Aside0.mk (show Kd.R Kd.string 9 w w0.heap.size (fun k_ => (P0_ k_ ∨ w.heap.size ≤ k_)) u9000_ l0 from Kd.R_mono ho0 (fun k_ hk => (.inl hk)))
  have HK := Aside0.mk (Kept.refl w (fun k_ => P0_ k_))
  have HW0 := Aside0.mk hB.size
  have HB := Aside0.mk hB
  clear hB
  have H : (supercargoref38_Put.l0 k l0 a1 0) = some r := h
  clear h
  have H' := Aside0.mk H
  clear H
  go_enter Try.func13, Try.ntmps13
  go_wp2
  go_loopg [5] k (fun kq v5 w' => ∃ (x5_1 : Int), v5 = .int .i64 x5_1 ∧ Aside0 (supercargoref38_Put.l0 kq l0 a1 x5_1 = some r) ∧ Aside0 (kq ≤ k) ∧ Aside0 (Kd.R Kd.string 9 w' w0.heap.size (fun k_ => (P0_ k_ ∨ w.heap.size ≤ k_)) u9000_ l0) ∧ Aside0 (Kept w w' (fun k_ => P0_ k_)) ∧ Aside0 (Below w0.heap.size w0 w'))
  case atStart => exact ⟨(0), (by first | rfl | (simp; done) | (simp [*]; done)), H', ⟨Nat.le_refl _⟩, ⟨by (with_reducible repeat (first | apply Kd.R_alloc | apply Kd.R_drewN | apply Kd.R_drew)); exact HO0.out⟩, ⟨by repeat (first | (with_reducible first | exact HK.out | apply Kept.alloc | apply Kept.drewN | apply Kept.drew) | exact HK.out)⟩, ⟨by repeat (first | (with_reducible first | exact HB.out | apply below_alloc | apply pw_below_drewN | apply below_drew1) | exact HB.out)⟩⟩
  case round =>
    clear H'
    try clear c1
    try clear p2
    obtain ⟨x5_1, rfl, HA, HK1, HO_0, HK, HB⟩ := hrel
    cases gk with
    | zero => exact absurd HA.out (by simp [supercargoref38_Put.l0])
    | succ k1 =>
      have H := HA.out
      clear HA
      simp only [supercargoref38_Put.l0] at H
      by_cases c3 : x5_1 < (l0.length : Int)
      · rw [if_pos c3] at H
        have c3b0 : decide (x5_1 < (l0.length : Int)) = true := decide_eq_true c3
        clear c3
        by_cases c4 : 0 ≤ x5_1
        · rw [if_pos c4] at H
          have c4b0 : decide (0 ≤ x5_1) = true := decide_eq_true c4
          clear c4
          by_cases c5 : (Op.bytesLess ((rdOf ByteArray.empty l0 x5_1).toList) a1.toList) = true
          · rw [if_pos c5] at H
            have c5b0 : (Op.bytesLess ((rdOf ByteArray.empty l0 x5_1).toList) a1.toList) = true := c5
            clear c5
            have H' := Aside0.mk H
            clear H
            obtain ⟨Ao6, co6, eo6⟩ := Kd.R_slice HO_0.out
            subst eo6
            have p241 : 0 ≤ (x5_1 : Int) := of_decide_eq_true (by first | (with_reducible assumption) | assumption)
            have q241 : x5_1 < (l0.length : Int) := of_decide_eq_true (by first | (with_reducible assumption) | assumption)
            obtain ⟨ad241, e241, hx241_0⟩ := Kd.at_string (Kd.R_reads' HO_0.out).2.2 x5_1 p241 q241
            cases e241
            replace p241 := eq_true p241
            replace q241 := eq_true q241
            go_wp2
            go_roundg k1
            case measure => have := HK1.out; omega
            case rel => exact ⟨(wrap64 (x5_1 + 1)), (by first | rfl | (simp; done) | (simp [*]; done)), H', ⟨by have := HK1.out; omega⟩, ⟨by (with_reducible repeat (first | apply Kd.R_alloc | apply Kd.R_drewN | apply Kd.R_drew)); exact HO_0.out⟩, ⟨by repeat (first | (with_reducible first | exact HK.out | apply Kept.alloc | apply Kept.drewN | apply Kept.drew) | exact HK.out)⟩, ⟨by repeat (first | (with_reducible first | exact HB.out | apply below_alloc | apply pw_below_drewN | apply below_drew1) | exact HB.out)⟩⟩
          · rw [if_neg c5] at H
            have c5b0 : (Op.bytesLess ((rdOf ByteArray.empty l0 x5_1).toList) a1.toList) = false := by simpa using c5
            clear c5
            by_cases c7 : (rdOf ByteArray.empty l0 x5_1).toList = a1.toList
            · rw [if_pos c7] at H
              have c7b0 : ((rdOf ByteArray.empty l0 x5_1).toList == a1.toList) = true := beq_iff_eq.mpr c7
              have c7b1 : ((rdOf ByteArray.empty l0 x5_1).toList != a1.toList) = false := bne_eq_false_iff_eq.mpr c7
              clear c7
              obtain rfl := Option.some.inj H
              obtain ⟨Ao8, co8, eo8⟩ := Kd.R_slice HO_0.out
              subst eo8
              have p241 : 0 ≤ (x5_1 : Int) := of_decide_eq_true (by first | (with_reducible assumption) | assumption)
              have q241 : x5_1 < (l0.length : Int) := of_decide_eq_true (by first | (with_reducible assumption) | assumption)
              obtain ⟨ad241, e241, hx241_0⟩ := Kd.at_string (Kd.R_reads' HO_0.out).2.2 x5_1 p241 q241
              cases e241
              replace p241 := eq_true p241
              replace q241 := eq_true q241
              have p242 : 0 ≤ (x5_1 : Int) := of_decide_eq_true (by first | (with_reducible assumption) | assumption)
              have q242 : x5_1 < (l0.length : Int) := of_decide_eq_true (by first | (with_reducible assumption) | assumption)
              obtain ⟨ad242, e242, hx242_0⟩ := Kd.at_string (Kd.R_reads' HO_0.out).2.2 x5_1 p242 q242
              obtain rfl : ad241 = ad242 := (by injection e242)
              replace p242 := eq_true p242
              replace q242 := eq_true q242
              go_wp2
              go_ret
              exact ⟨_, by first | rfl | (simp [errW_none, errW_some] <;> rfl) | (simp [*, errW_none, errW_some] <;> rfl), by (with_reducible repeat (first | apply Kd.R_alloc | apply Kd.R_drewN | apply Kd.R_drew)); exact HO_0.out, by repeat (first | (with_reducible first | exact HB.out | apply below_alloc | apply pw_below_drewN | apply below_drew1) | exact HB.out), by repeat (first | (with_reducible first | exact HK.out | apply Kept.alloc | apply Kept.drewN | apply Kept.drew) | exact HK.out)⟩
            · rw [if_neg c7] at H
              have c7b0 : ((rdOf ByteArray.empty l0 x5_1).toList == a1.toList) = false := beq_eq_false_iff_ne.mpr c7
              have c7b1 : ((rdOf ByteArray.empty l0 x5_1).toList != a1.toList) = true := bne_iff_ne.mpr c7
              obtain ⟨y243, hy243⟩ : ∃ y_ : List ByteArray, y_ = (([] : List ByteArray)) := ⟨_, rfl⟩
              replace H : (if x5_1 ≤ (l0.length : Int) then ((some (l0.take (x5_1 : Int).toNat : List ByteArray)).bind fun y246 => (if y243.length + y246.length < 8796093022208 then ((some (y243 ++ y246 : List ByteArray)).bind fun y250 => (if y250.length < 8796093022208 then ((some (y250 ++ [a1] : List ByteArray)).bind fun y253 => ((some (l0.drop (x5_1 : Int).toNat : List ByteArray)).bind fun y256 => (if y253.length + y256.length < 8796093022208 then (some (y253 ++ y256)) else (none)))) else (none))) else (none))) else (none)) = some r := by first | (rw [hy243]; with_reducible exact H) | (have H2_ := (Option.bind_some _ _).symm.trans H; rw [hy243]; with_reducible exact H2_) | (have H2_ := (Option.bind_some _ _).symm.trans H; with_reducible exact H2_) | with_reducible exact H | (rw [hy243]; exact H) | exact H
              have Ny243 := Aside0.mk hy243
              clear hy243
              have c9b0 := eq_true (of_decide_eq_true (by first | (with_reducible assumption) | assumption) : 0 ≤ x5_1)
              by_cases c10 : x5_1 ≤ (l0.length : Int)
              · rw [if_pos c10] at H
                have c10b0 := eq_true c10
                have c10b1 : decide (x5_1 ≤ (l0.length : Int)) = true := decide_eq_true c10
                clear c10
                obtain ⟨y246, hy246⟩ : ∃ y_ : List ByteArray, y_ = (l0.take (x5_1 : Int).toNat) := ⟨_, rfl⟩
                replace H : (if y243.length + y246.length < 8796093022208 then ((some (y243 ++ y246 : List ByteArray)).bind fun y250 => (if y250.length < 8796093022208 then ((some (y250 ++ [a1] : List ByteArray)).bind fun y253 => ((some (l0.drop (x5_1 : Int).toNat : List ByteArray)).bind fun y256 => (if y253.length + y256.length < 8796093022208 then (some (y253 ++ y256)) else (none)))) else (none))) else (none)) = some r := by first | (rw [hy246]; with_reducible exact H) | (have H2_ := (Option.bind_some _ _).symm.trans H; rw [hy246]; with_reducible exact H2_) | (have H2_ := (Option.bind_some _ _).symm.trans H; with_reducible exact H2_) | with_reducible exact H | (rw [hy246]; exact H) | exact H
                have Ny246 := Aside0.mk hy246
                clear hy246
                by_cases c11 : y243.length + y246.length < 8796093022208
                · rw [if_pos c11] at H
                  have LMc11 := Aside0.mk c11
                  clear c11
                  obtain ⟨y250, hy250⟩ : ∃ y_ : List ByteArray, y_ = (y243 ++ y246) := ⟨_, rfl⟩
                  replace H : (if y250.length < 8796093022208 then ((some (y250 ++ [a1] : List ByteArray)).bind fun y253 => ((some (l0.drop (x5_1 : Int).toNat : List ByteArray)).bind fun y256 => (if y253.length + y256.length < 8796093022208 then (some (y253 ++ y256)) else (none)))) else (none)) = some r := by first | (rw [hy250]; with_reducible exact H) | (have H2_ := (Option.bind_some _ _).symm.trans H; rw [hy250]; with_reducible exact H2_) | (have H2_ := (Option.bind_some _ _).symm.trans H; with_reducible exact H2_) | with_reducible exact H | (rw [hy250]; exact H) | exact H
                  have Ny250 := Aside0.mk hy250
                  clear hy250
                  by_cases c12 : y250.length < 8796093022208
                  · rw [if_pos c12] at H
                    have LMc12 := Aside0.mk c12
                    clear c12
                    obtain ⟨y253, hy253⟩ : ∃ y_ : List ByteArray, y_ = (y250 ++ [a1]) := ⟨_, rfl⟩
                    replace H : ((some (l0.drop (x5_1 : Int).toNat : List ByteArray)).bind fun y256 => (if y253.length + y256.length < 8796093022208 then (some (y253 ++ y256)) else (none))) = some r := by first | (rw [hy253]; with_reducible exact H) | (have H2_ := (Option.bind_some _ _).symm.trans H; rw [hy253]; with_reducible exact H2_) | (have H2_ := (Option.bind_some _ _).symm.trans H; with_reducible exact H2_) | with_reducible exact H | (rw [hy253]; exact H) | exact H
                    have Ny253 := Aside0.mk hy253
                    clear hy253
                    have c13b0 := eq_true (of_decide_eq_true (by first | (with_reducible assumption) | assumption) : 0 ≤ x5_1)
                    have c14b0 := eq_true (of_decide_eq_true (by first | (with_reducible assumption) | assumption) : x5_1 ≤ (l0.length : Int))
                    obtain ⟨y256, hy256⟩ : ∃ y_ : List ByteArray, y_ = (l0.drop (x5_1 : Int).toNat) := ⟨_, rfl⟩
                    replace H : (if y253.length + y256.length < 8796093022208 then (some (y253 ++ y256)) else (none)) = some r := by first | (rw [hy256]; with_reducible exact H) | (have H2_ := (Option.bind_some _ _).symm.trans H; rw [hy256]; with_reducible exact H2_) | (have H2_ := (Option.bind_some _ _).symm.trans H; with_reducible exact H2_) | with_reducible exact H | (rw [hy256]; exact H) | exact H
                    have Ny256 := Aside0.mk hy256
                    clear hy256
                    by_cases c15 : y253.length + y256.length < 8796093022208
                    · rw [if_pos c15] at H
                      have LMc15 := Aside0.mk c15
                      clear c15
                      obtain ⟨y260, hy260⟩ : ∃ y_ : List ByteArray, y_ = (y253 ++ y256) := ⟨_, rfl⟩
                      replace H : (some y260) = some r := by first | (rw [hy260]; with_reducible exact H) | (have H2_ := (Option.bind_some _ _).symm.trans H; rw [hy260]; with_reducible exact H2_) | (have H2_ := (Option.bind_some _ _).symm.trans H; with_reducible exact H2_) | with_reducible exact H | (rw [hy260]; exact H) | exact H
                      have Ny260 := Aside0.mk hy260
                      clear hy260
                      obtain rfl := Option.some.inj H
                      obtain ⟨Ao16, co16, eo16⟩ := Kd.R_slice HO_0.out
                      subst eo16
                      have p241 : 0 ≤ (x5_1 : Int) := of_decide_eq_true (by first | (with_reducible assumption) | assumption)
                      have q241 : x5_1 < (l0.length : Int) := of_decide_eq_true (by first | (with_reducible assumption) | assumption)
                      obtain ⟨ad241, e241, hx241_0⟩ := Kd.at_string (Kd.R_reads' HO_0.out).2.2 x5_1 p241 q241
                      cases e241
                      replace p241 := eq_true p241
                      replace q241 := eq_true q241
                      have p242 : 0 ≤ (x5_1 : Int) := of_decide_eq_true (by first | (with_reducible assumption) | assumption)
                      have q242 : x5_1 < (l0.length : Int) := of_decide_eq_true (by first | (with_reducible assumption) | assumption)
                      obtain ⟨ad242, e242, hx242_0⟩ := Kd.at_string (Kd.R_reads' HO_0.out).2.2 x5_1 p242 q242
                      obtain rfl : ad241 = ad242 := (by injection e242)
                      replace p242 := eq_true p242
                      replace q242 := eq_true q242
                      go_wp2_with (first | ((with_reducible refine gate_dst (N := 34) rfl ?_); refine Kd.R_lit Kd.string _ 9 ?hg (N := 34) ?hd (xs := ([] : List ByteArray)) (inner := []) (ok := fun _ => True) (okp := fun _ => True) ?hr ?hp (fun _ hk => hk) trivial (Below.refl _ _) (Nat.le_refl _) (by simp) ?_; (case hd => rfl); (case hg => rfl); (case hr => first | (go_simp; done) | (go_simp; rfl)); (case hp => exact (Reps.none _ _)); intro v244 w17 ho18 hb hg_ hnew_; clear hg_ hnew_; (first | rw [← Ny243.out] at ho18 | (simp only [Int.reduceToNat] at ho18; rw [← Ny243.out] at ho18)); have n0_ := Aside0.mk (Kd.R_elder' (by (with_reducible repeat (first | apply Kd.R_alloc | apply Kd.R_drewN | apply Kd.R_drew)); exact HO_0.out) (Kd.R_base ho18) hb); have n1_ := Aside0.mk (Kd.R_lower (Kd.R_new' (Kd.R_newM (M := fun k_ => (P0_ k_ ∨ w.heap.size ≤ k_)) ho18 (by first | exact HK.out.1 | exact (show Kept w _ (fun k_ => P0_ k_) from by repeat (first | (with_reducible first | exact HK.out | apply Kept.alloc | apply Kept.drewN | apply Kept.drew) | exact HK.out)).1) (fun k_ h_ => .inr h_)) (Kd.R_lt (by (with_reducible repeat (first | apply Kd.R_alloc | apply Kd.R_drewN | apply Kd.R_drew)); exact HO_0.out))) (below_size (by repeat (first | (with_reducible first | exact HB.out | apply below_alloc | apply pw_below_drewN | apply below_drew1) | exact HB.out)))); have n2_ := Aside0.mk (Kept.below (S := (fun k_ => P0_ k_)) (by repeat (first | (with_reducible first | exact HK.out | apply Kept.alloc | apply Kept.drewN | apply Kept.drew) | exact HK.out)) hb); have n3_ := Aside0.mk (below_step (by repeat (first | (with_reducible first | exact HB.out | apply below_alloc | apply pw_below_drewN | apply below_drew1) | exact HB.out)) hb); clear HO_0; clear HK; clear HB; have HO_0 := n0_; have HO245 := n1_; have HK := n2_; have HB := n3_; clear n0_ n1_ n2_ n3_; clear hb ho18; have q19 : (x5_1 : Int) ≤ ((l0.length : Int) : Int) := of_decide_eq_true (by first | (with_reducible assumption) | assumption); obtain ⟨i019, hi019, _, hsz19, _⟩ := info_parts info9; have hroom19 : l0.length ≤ co16 := (Kd.R_reads' HO_0.out).2.1; have hC19 : Kd.C Kd.string _ (some ad241) l0.length l0 := (Kd.R_reads' HO_0.out).2.2; have hcut19 := cut_to (P := Try.prog) 26 9 .i64 Try.underlying26 hi019 (some ad241) l0.length co16 x5_1 (of_decide_eq_true (by first | (with_reducible assumption) | assumption)) q19 hroom19; have hr19 := Kd.C_take (m := (x5_1 : Int).toNat) hC19 (by omega); have hy19 : y246.length = (x5_1 : Int).toNat := (by rw [Ny246.out, List.length_take]; omega); rw [← Ny246.out] at hr19; rw [← hy19] at hcut19; have HR249 := Aside0.mk hr19; have HC249 := Aside0.mk (show y246.length ≤ co16 from by omega); clear hr19 hC19 hroom19 hi019 hsz19; have KY19 := Aside0.mk hy19; clear hy19; have KL19 := Aside0.mk (show (x5_1 : Int).toNat ≤ l0.length from by omega); replace q19 := eq_true q19) | ((with_reducible refine gate_builtin (b := .append) (xs := #[.tmp 34, .tmp 37]) rfl ?_); at_builtin; refine Kd.R_append_rows Kd.string (w0 := w0) w0.heap.size rfl (.tmp 34) (.tmp 37) 26 9 (.string ⟨#[]⟩) 16 rfl Try.underlying26 info9 rfl (by decide) (by omega) v244 y243 y246 _ _ _ (fun k_ => (P0_ k_ ∨ w.heap.size ≤ k_) ∧ some k_ ≠ (.slice (some ad241) l0.length co16 : Value).ownBlock) (fun _ => False) rfl rfl ?aO ?aR (fun _ _ h => h) (fun _ h => h.elim) ?aF ?aB ?aS ?aL ?_; (case aR => repeat (first | exact (by repeat (first | (with_reducible exact HR249.out) | (with_reducible refine Kd.C_alloc ?_ _) | (with_reducible refine Kd.C_drewN ?_ _) | (with_reducible refine Kd.C_drew ?_) | exact HR249.out)) | (with_reducible refine Kd.C_alloc ?_ _) | (with_reducible refine Kd.C_drewN ?_ _) | (with_reducible refine Kd.C_drew ?_))); (case aB => exact (by repeat (first | (with_reducible first | exact HB.out | apply below_alloc | apply pw_below_drewN | apply below_drew1) | exact HB.out))); (case aF => exact (fun k_ hk => ⟨(.inr (Nat.le_trans (by first | exact HK.out.1 | exact (show Kept w _ (fun k_ => P0_ k_) from by repeat (first | (with_reducible first | exact HK.out | apply Kept.alloc | apply Kept.drewN | apply Kept.drew) | exact HK.out)).1) hk)), Kd.fresh' (Kd.R_lt (by (with_reducible repeat (first | apply Kd.R_alloc | apply Kd.R_drewN | apply Kd.R_drew)); exact HO_0.out)) k_ hk⟩)); (case aO => exact (by (with_reducible repeat (first | apply Kd.R_alloc | apply Kd.R_drewN | apply Kd.R_drew)); exact Kd.R_mono HO245.out (fun _ hk => ⟨hk.1.1, hk.2⟩))); (case aS => exact (below_size (by repeat (first | (with_reducible first | exact HB.out | apply below_alloc | apply pw_below_drewN | apply below_drew1) | exact HB.out)))); (case aL => have := LMc11.out; omega); intro v251 w20 ho hb hg hat; rw [← Ny250.out] at ho; have n0_ := Aside0.mk (Kd.R_after (ok := (fun k_ => (P0_ k_ ∨ w.heap.size ≤ k_))) (by (with_reducible repeat (first | apply Kd.R_alloc | apply Kd.R_drewN | apply Kd.R_drew)); exact HO_0.out) hg hat); have n1_ := Aside0.mk (hb); have n2_ := Aside0.mk (Kept.of_grown (S := (fun k_ => P0_ k_)) hg (by repeat (first | (with_reducible first | exact HK.out | apply Kept.alloc | apply Kept.drewN | apply Kept.drew) | exact HK.out)) (fun k_ e_ => (HO245.out.1 k_ e_).1.1)); have n3_ := Aside0.mk ((show Kd.C Kd.string w20 (some ad241) y246.length y246 from by rw [Ny246.out]; exact Kd.C_take (m := (x5_1 : Int).toNat) ((Kd.R_reads' (Kd.R_after (ok := (fun k_ => (P0_ k_ ∨ w.heap.size ≤ k_))) (by (with_reducible repeat (first | apply Kd.R_alloc | apply Kd.R_drewN | apply Kd.R_drew)); exact HO_0.out) hg hat)).2.2) KL19.out)); have n4_ := Aside0.mk (ho); clear HO_0; clear HB; clear HK; clear HR249; clear HO245; have HO_0 := n0_; have HB := n1_; have HK := n2_; have HR249 := n3_; have HO252 := n4_; clear n0_ n1_ n2_ n3_ n4_; clear ho hb hg hat) | ((with_reducible refine gate_builtin (b := .append) (xs := #[.tmp 38, .tmp 40]) rfl ?_); at_builtin; refine Kd.R_append Kd.string (w0 := w0) w0.heap.size rfl (.tmp 38) (.tmp 40) 26 9 (.string ⟨#[]⟩) 16 rfl Try.underlying26 info9 rfl (by decide) (by omega) v251 y250 a1 [.string a1] (fun k_ => (P0_ k_ ∨ w.heap.size ≤ k_) ∧ some k_ ≠ (.slice (some ad241) l0.length co16 : Value).ownBlock) (fun _ => False) rfl rfl ?aP (fun _ hk => hk.elim) ?aF ?aO ?aB ?aS ?aL ?_; (case aP => exact rfl); (case aB => exact (by repeat (first | (with_reducible first | exact HB.out | apply below_alloc | apply pw_below_drewN | apply below_drew1) | exact HB.out))); (case aF => exact (fun k_ hk => ⟨(.inr (Nat.le_trans (by first | exact HK.out.1 | exact (show Kept w _ (fun k_ => P0_ k_) from by repeat (first | (with_reducible first | exact HK.out | apply Kept.alloc | apply Kept.drewN | apply Kept.drew) | exact HK.out)).1) hk)), Kd.fresh' (Kd.R_lt (by (with_reducible repeat (first | apply Kd.R_alloc | apply Kd.R_drewN | apply Kd.R_drew)); exact HO_0.out)) k_ hk⟩)); (case aO => exact (by (with_reducible repeat (first | apply Kd.R_alloc | apply Kd.R_drewN | apply Kd.R_drew)); exact HO252.out)); (case aS => exact (below_size (by repeat (first | (with_reducible first | exact HB.out | apply below_alloc | apply pw_below_drewN | apply below_drew1) | exact HB.out)))); (case aL => have := LMc12.out; omega); intro v254 w21 ho hb hg hat; rw [← Ny253.out] at ho; have n0_ := Aside0.mk (Kd.R_after (ok := (fun k_ => (P0_ k_ ∨ w.heap.size ≤ k_))) (by (with_reducible repeat (first | apply Kd.R_alloc | apply Kd.R_drewN | apply Kd.R_drew)); exact HO_0.out) hg hat); have n1_ := Aside0.mk (hb); have n2_ := Aside0.mk (Kept.of_grown (S := (fun k_ => P0_ k_)) hg (by repeat (first | (with_reducible first | exact HK.out | apply Kept.alloc | apply Kept.drewN | apply Kept.drew) | exact HK.out)) (fun k_ e_ => (HO252.out.1 k_ e_).1)); have n3_ := Aside0.mk ((show Kd.C Kd.string w21 (some ad241) y246.length y246 from by rw [Ny246.out]; exact Kd.C_take (m := (x5_1 : Int).toNat) ((Kd.R_reads' (Kd.R_after (ok := (fun k_ => (P0_ k_ ∨ w.heap.size ≤ k_))) (by (with_reducible repeat (first | apply Kd.R_alloc | apply Kd.R_drewN | apply Kd.R_drew)); exact HO_0.out) hg hat)).2.2) KL19.out)); have n4_ := Aside0.mk (ho); clear HO_0; clear HB; clear HK; clear HR249; clear HO252; have HO_0 := n0_; have HB := n1_; have HK := n2_; have HR249 := n3_; have HO255 := n4_; clear n0_ n1_ n2_ n3_ n4_; clear ho hb hg hat; have q22 : (x5_1 : Int) ≤ ((l0.length : Int) : Int) := of_decide_eq_true (by first | (with_reducible assumption) | assumption); obtain ⟨i022, hi022, _, hsz22, _⟩ := info_parts info9; have hroom22 : l0.length ≤ co16 := (Kd.R_reads' HO_0.out).2.1; have hC22 : Kd.C Kd.string _ (some ad241) l0.length l0 := (Kd.R_reads' HO_0.out).2.2; have q022 : (0 : Int) ≤ (x5_1 : Int) := of_decide_eq_true (by first | (with_reducible assumption) | assumption); have hcut22 := cut_from (P := Try.prog) 26 9 .i64 Try.underlying26 hi022 1 hsz22 (some ad241) l0.length co16 x5_1 q022 q22; have hr22 := Kd.C_drop (m := (x5_1 : Int).toNat) (c := co16) hC22 (by omega) hroom22; obtain ⟨A22, hA22⟩ : ∃ A1, A1 = (if co16 = (x5_1 : Int).toNat then (some ad241) else ((some ad241) : Option Addr).map (·.add ((x5_1 : Int).toNat * 1))) := ⟨_, rfl⟩; obtain ⟨c22, hc22⟩ : ∃ c1, c1 = co16 - (x5_1 : Int).toNat := ⟨_, rfl⟩; have hy22 : y256.length = l0.length - (x5_1 : Int).toNat := (by rw [Ny256.out, List.length_drop] <;> omega); rw [show (l0).drop (x5_1 : Int).toNat = y256 from Ny256.out.symm] at hr22; replace hr22 : Kd.C Kd.string _ A22 y256.length y256 := (by rw [hA22]; exact hr22); rw [← hy22, ← hA22, ← hc22] at hcut22; have HR259 := Aside0.mk hr22; have HC259 := Aside0.mk (show y256.length ≤ c22 from by rw [hy22, hc22]; exact Nat.sub_le_sub_right hroom22 _); clear hr22 hC22 hroom22 hi022 hsz22 hc22; have KY22 := Aside0.mk hy22; have KA22 := Aside0.mk hA22; clear hy22 hA22; have KL22 := Aside0.mk (show (x5_1 : Int).toNat ≤ l0.length from by omega); replace q22 := eq_true q22) | ((with_reducible refine gate_builtin (b := .append) (xs := #[.tmp 42, .tmp 45]) rfl ?_); at_builtin; refine Kd.R_append_rows Kd.string (w0 := w0) w0.heap.size rfl (.tmp 42) (.tmp 45) 26 9 (.string ⟨#[]⟩) 16 rfl Try.underlying26 info9 rfl (by decide) (by omega) v254 y253 y256 _ _ _ (fun k_ => (P0_ k_ ∨ w.heap.size ≤ k_) ∧ some k_ ≠ (.slice (some ad241) l0.length co16 : Value).ownBlock) (fun _ => False) rfl rfl ?aO ?aR (fun _ _ h => h) (fun _ h => h.elim) ?aF ?aB ?aS ?aL ?_; (case aR => repeat (first | exact (by repeat (first | (with_reducible exact HR259.out) | (with_reducible refine Kd.C_alloc ?_ _) | (with_reducible refine Kd.C_drewN ?_ _) | (with_reducible refine Kd.C_drew ?_) | exact HR259.out)) | (with_reducible refine Kd.C_alloc ?_ _) | (with_reducible refine Kd.C_drewN ?_ _) | (with_reducible refine Kd.C_drew ?_))); (case aB => exact (by repeat (first | (with_reducible first | exact HB.out | apply below_alloc | apply pw_below_drewN | apply below_drew1) | exact HB.out))); (case aF => exact (fun k_ hk => ⟨(.inr (Nat.le_trans (by first | exact HK.out.1 | exact (show Kept w _ (fun k_ => P0_ k_) from by repeat (first | (with_reducible first | exact HK.out | apply Kept.alloc | apply Kept.drewN | apply Kept.drew) | exact HK.out)).1) hk)), Kd.fresh' (Kd.R_lt (by (with_reducible repeat (first | apply Kd.R_alloc | apply Kd.R_drewN | apply Kd.R_drew)); exact HO_0.out)) k_ hk⟩)); (case aO => exact (by (with_reducible repeat (first | apply Kd.R_alloc | apply Kd.R_drewN | apply Kd.R_drew)); exact HO255.out)); (case aS => exact (below_size (by repeat (first | (with_reducible first | exact HB.out | apply below_alloc | apply pw_below_drewN | apply below_drew1) | exact HB.out)))); (case aL => have := LMc15.out; omega); intro v261 w23 ho hb hg hat; rw [← Ny260.out] at ho; have n0_ := Aside0.mk (Kd.R_after (ok := (fun k_ => (P0_ k_ ∨ w.heap.size ≤ k_))) (by (with_reducible repeat (first | apply Kd.R_alloc | apply Kd.R_drewN | apply Kd.R_drew)); exact HO_0.out) hg hat); have n1_ := Aside0.mk (hb); have n2_ := Aside0.mk (Kept.of_grown (S := (fun k_ => P0_ k_)) hg (by repeat (first | (with_reducible first | exact HK.out | apply Kept.alloc | apply Kept.drewN | apply Kept.drew) | exact HK.out)) (fun k_ e_ => (HO255.out.1 k_ e_).1)); have n3_ := Aside0.mk ((show Kd.C Kd.string w23 (some ad241) y246.length y246 from by rw [Ny246.out]; exact Kd.C_take (m := (x5_1 : Int).toNat) ((Kd.R_reads' (Kd.R_after (ok := (fun k_ => (P0_ k_ ∨ w.heap.size ≤ k_))) (by (with_reducible repeat (first | apply Kd.R_alloc | apply Kd.R_drewN | apply Kd.R_drew)); exact HO_0.out) hg hat)).2.2) KL19.out)); have n4_ := Aside0.mk ((show Kd.C Kd.string w23 A22 y256.length y256 from by rw [Ny256.out, KA22.out]; exact Kd.C_drop (m := (x5_1 : Int).toNat) (c := co16) ((Kd.R_reads' (Kd.R_after (ok := (fun k_ => (P0_ k_ ∨ w.heap.size ≤ k_))) (by (with_reducible repeat (first | apply Kd.R_alloc | apply Kd.R_drewN | apply Kd.R_drew)); exact HO_0.out) hg hat)).2.2) KL22.out ((Kd.R_reads' (Kd.R_after (ok := (fun k_ => (P0_ k_ ∨ w.heap.size ≤ k_))) (by (with_reducible repeat (first | apply Kd.R_alloc | apply Kd.R_drewN | apply Kd.R_drew)); exact HO_0.out) hg hat)).2.1))); have n5_ := Aside0.mk (ho); clear HO_0; clear HB; clear HK; clear HR249; clear HR259; clear HO255; have HO_0 := n0_; have HB := n1_; have HK := n2_; have HR249 := n3_; have HR259 := n4_; have HO262 := n5_; clear n0_ n1_ n2_ n3_ n4_ n5_; clear ho hb hg hat))
                      go_ret
                      exact ⟨_, by first | rfl | (simp [errW_none, errW_some] <;> rfl) | (simp [*, errW_none, errW_some] <;> rfl), by (with_reducible repeat (first | apply Kd.R_alloc | apply Kd.R_drewN | apply Kd.R_drew)); exact Kd.R_mono HO262.out (fun _ hk => hk.1), by repeat (first | (with_reducible first | exact HB.out | apply below_alloc | apply pw_below_drewN | apply below_drew1) | exact HB.out), by repeat (first | (with_reducible first | exact HK.out | apply Kept.alloc | apply Kept.drewN | apply Kept.drew) | exact HK.out)⟩
                    · rw [if_neg c15] at H
                      exact absurd H (by simp)
                  · rw [if_neg c12] at H
                    exact absurd H (by simp)
                · rw [if_neg c11] at H
                  exact absurd H (by simp)
              · rw [if_neg c10] at H
                exact absurd H (by simp)
        · rw [if_neg c4] at H
          exact absurd H (by simp)
      · rw [if_neg c3] at H
        have c3b0 : decide (x5_1 < (l0.length : Int)) = false := decide_eq_false c3
        clear c3
        obtain ⟨y263, hy263⟩ : ∃ y_ : List ByteArray, y_ = (([] : List ByteArray)) := ⟨_, rfl⟩
        replace H : (if 0 ≤ x5_1 then (if x5_1 ≤ (l0.length : Int) then ((some (l0.take (x5_1 : Int).toNat : List ByteArray)).bind fun y266 => (if y263.length + y266.length < 8796093022208 then ((some (y263 ++ y266 : List ByteArray)).bind fun y270 => (if y270.length < 8796093022208 then ((some (y270 ++ [a1] : List ByteArray)).bind fun y273 => ((some (l0.drop (x5_1 : Int).toNat : List ByteArray)).bind fun y276 => (if y273.length + y276.length < 8796093022208 then (some (y273 ++ y276)) else (none)))) else (none))) else (none))) else (none)) else (none)) = some r := by first | (rw [hy263]; with_reducible exact H) | (have H2_ := (Option.bind_some _ _).symm.trans H; rw [hy263]; with_reducible exact H2_) | (have H2_ := (Option.bind_some _ _).symm.trans H; with_reducible exact H2_) | with_reducible exact H | (rw [hy263]; exact H) | exact H
        have Ny263 := Aside0.mk hy263
        clear hy263
        by_cases c24 : 0 ≤ x5_1
        · rw [if_pos c24] at H
          have c24b0 := eq_true c24
          have c24b1 : decide (0 ≤ x5_1) = true := decide_eq_true c24
          clear c24
          by_cases c25 : x5_1 ≤ (l0.length : Int)
          · rw [if_pos c25] at H
            have c25b0 := eq_true c25
            have c25b1 : decide (x5_1 ≤ (l0.length : Int)) = true := decide_eq_true c25
            clear c25
            obtain ⟨y266, hy266⟩ : ∃ y_ : List ByteArray, y_ = (l0.take (x5_1 : Int).toNat) := ⟨_, rfl⟩
            replace H : (if y263.length + y266.length < 8796093022208 then ((some (y263 ++ y266 : List ByteArray)).bind fun y270 => (if y270.length < 8796093022208 then ((some (y270 ++ [a1] : List ByteArray)).bind fun y273 => ((some (l0.drop (x5_1 : Int).toNat : List ByteArray)).bind fun y276 => (if y273.length + y276.length < 8796093022208 then (some (y273 ++ y276)) else (none)))) else (none))) else (none)) = some r := by first | (rw [hy266]; with_reducible exact H) | (have H2_ := (Option.bind_some _ _).symm.trans H; rw [hy266]; with_reducible exact H2_) | (have H2_ := (Option.bind_some _ _).symm.trans H; with_reducible exact H2_) | with_reducible exact H | (rw [hy266]; exact H) | exact H
            have Ny266 := Aside0.mk hy266
            clear hy266
            by_cases c26 : y263.length + y266.length < 8796093022208
            · rw [if_pos c26] at H
              have LMc26 := Aside0.mk c26
              clear c26
              obtain ⟨y270, hy270⟩ : ∃ y_ : List ByteArray, y_ = (y263 ++ y266) := ⟨_, rfl⟩
              replace H : (if y270.length < 8796093022208 then ((some (y270 ++ [a1] : List ByteArray)).bind fun y273 => ((some (l0.drop (x5_1 : Int).toNat : List ByteArray)).bind fun y276 => (if y273.length + y276.length < 8796093022208 then (some (y273 ++ y276)) else (none)))) else (none)) = some r := by first | (rw [hy270]; with_reducible exact H) | (have H2_ := (Option.bind_some _ _).symm.trans H; rw [hy270]; with_reducible exact H2_) | (have H2_ := (Option.bind_some _ _).symm.trans H; with_reducible exact H2_) | with_reducible exact H | (rw [hy270]; exact H) | exact H
              have Ny270 := Aside0.mk hy270
              clear hy270
              by_cases c27 : y270.length < 8796093022208
              · rw [if_pos c27] at H
                have LMc27 := Aside0.mk c27
                clear c27
                obtain ⟨y273, hy273⟩ : ∃ y_ : List ByteArray, y_ = (y270 ++ [a1]) := ⟨_, rfl⟩
                replace H : ((some (l0.drop (x5_1 : Int).toNat : List ByteArray)).bind fun y276 => (if y273.length + y276.length < 8796093022208 then (some (y273 ++ y276)) else (none))) = some r := by first | (rw [hy273]; with_reducible exact H) | (have H2_ := (Option.bind_some _ _).symm.trans H; rw [hy273]; with_reducible exact H2_) | (have H2_ := (Option.bind_some _ _).symm.trans H; with_reducible exact H2_) | with_reducible exact H | (rw [hy273]; exact H) | exact H
                have Ny273 := Aside0.mk hy273
                clear hy273
                have c28b0 := eq_true (of_decide_eq_true (by first | (with_reducible assumption) | assumption) : 0 ≤ x5_1)
                have c29b0 := eq_true (of_decide_eq_true (by first | (with_reducible assumption) | assumption) : x5_1 ≤ (l0.length : Int))
                obtain ⟨y276, hy276⟩ : ∃ y_ : List ByteArray, y_ = (l0.drop (x5_1 : Int).toNat) := ⟨_, rfl⟩
                replace H : (if y273.length + y276.length < 8796093022208 then (some (y273 ++ y276)) else (none)) = some r := by first | (rw [hy276]; with_reducible exact H) | (have H2_ := (Option.bind_some _ _).symm.trans H; rw [hy276]; with_reducible exact H2_) | (have H2_ := (Option.bind_some _ _).symm.trans H; with_reducible exact H2_) | with_reducible exact H | (rw [hy276]; exact H) | exact H
                have Ny276 := Aside0.mk hy276
                clear hy276
                by_cases c30 : y273.length + y276.length < 8796093022208
                · rw [if_pos c30] at H
                  have LMc30 := Aside0.mk c30
                  clear c30
                  obtain ⟨y280, hy280⟩ : ∃ y_ : List ByteArray, y_ = (y273 ++ y276) := ⟨_, rfl⟩
                  replace H : (some y280) = some r := by first | (rw [hy280]; with_reducible exact H) | (have H2_ := (Option.bind_some _ _).symm.trans H; rw [hy280]; with_reducible exact H2_) | (have H2_ := (Option.bind_some _ _).symm.trans H; with_reducible exact H2_) | with_reducible exact H | (rw [hy280]; exact H) | exact H
                  have Ny280 := Aside0.mk hy280
                  clear hy280
                  obtain rfl := Option.some.inj H
                  obtain ⟨Ao31, co31, eo31⟩ := Kd.R_slice HO_0.out
                  subst eo31
                  go_wp2_with (first | ((with_reducible refine gate_dst (N := 34) rfl ?_); refine Kd.R_lit Kd.string _ 9 ?hg (N := 34) ?hd (xs := ([] : List ByteArray)) (inner := []) (ok := fun _ => True) (okp := fun _ => True) ?hr ?hp (fun _ hk => hk) trivial (Below.refl _ _) (Nat.le_refl _) (by simp) ?_; (case hd => rfl); (case hg => rfl); (case hr => first | (go_simp; done) | (go_simp; rfl)); (case hp => exact (Reps.none _ _)); intro v264 w32 ho33 hb hg_ hnew_; clear hg_ hnew_; (first | rw [← Ny263.out] at ho33 | (simp only [Int.reduceToNat] at ho33; rw [← Ny263.out] at ho33)); have n0_ := Aside0.mk (Kd.R_elder' (by (with_reducible repeat (first | apply Kd.R_alloc | apply Kd.R_drewN | apply Kd.R_drew)); exact HO_0.out) (Kd.R_base ho33) hb); have n1_ := Aside0.mk (Kd.R_lower (Kd.R_new' (Kd.R_newM (M := fun k_ => (P0_ k_ ∨ w.heap.size ≤ k_)) ho33 (by first | exact HK.out.1 | exact (show Kept w _ (fun k_ => P0_ k_) from by repeat (first | (with_reducible first | exact HK.out | apply Kept.alloc | apply Kept.drewN | apply Kept.drew) | exact HK.out)).1) (fun k_ h_ => .inr h_)) (Kd.R_lt (by (with_reducible repeat (first | apply Kd.R_alloc | apply Kd.R_drewN | apply Kd.R_drew)); exact HO_0.out))) (below_size (by repeat (first | (with_reducible first | exact HB.out | apply below_alloc | apply pw_below_drewN | apply below_drew1) | exact HB.out)))); have n2_ := Aside0.mk (Kept.below (S := (fun k_ => P0_ k_)) (by repeat (first | (with_reducible first | exact HK.out | apply Kept.alloc | apply Kept.drewN | apply Kept.drew) | exact HK.out)) hb); have n3_ := Aside0.mk (below_step (by repeat (first | (with_reducible first | exact HB.out | apply below_alloc | apply pw_below_drewN | apply below_drew1) | exact HB.out)) hb); clear HO_0; clear HK; clear HB; have HO_0 := n0_; have HO265 := n1_; have HK := n2_; have HB := n3_; clear n0_ n1_ n2_ n3_; clear hb ho33; have q34 : (x5_1 : Int) ≤ ((l0.length : Int) : Int) := of_decide_eq_true (by first | (with_reducible assumption) | assumption); obtain ⟨i034, hi034, _, hsz34, _⟩ := info_parts info9; have hroom34 : l0.length ≤ co31 := (Kd.R_reads' HO_0.out).2.1; have hC34 : Kd.C Kd.string _ Ao31 l0.length l0 := (Kd.R_reads' HO_0.out).2.2; have hcut34 := cut_to (P := Try.prog) 26 9 .i64 Try.underlying26 hi034 Ao31 l0.length co31 x5_1 (of_decide_eq_true (by first | (with_reducible assumption) | assumption)) q34 hroom34; have hr34 := Kd.C_take (m := (x5_1 : Int).toNat) hC34 (by omega); have hy34 : y266.length = (x5_1 : Int).toNat := (by rw [Ny266.out, List.length_take]; omega); rw [← Ny266.out] at hr34; rw [← hy34] at hcut34; have HR269 := Aside0.mk hr34; have HC269 := Aside0.mk (show y266.length ≤ co31 from by omega); clear hr34 hC34 hroom34 hi034 hsz34; have KY34 := Aside0.mk hy34; clear hy34; have KL34 := Aside0.mk (show (x5_1 : Int).toNat ≤ l0.length from by omega); replace q34 := eq_true q34) | ((with_reducible refine gate_builtin (b := .append) (xs := #[.tmp 34, .tmp 37]) rfl ?_); at_builtin; refine Kd.R_append_rows Kd.string (w0 := w0) w0.heap.size rfl (.tmp 34) (.tmp 37) 26 9 (.string ⟨#[]⟩) 16 rfl Try.underlying26 info9 rfl (by decide) (by omega) v264 y263 y266 _ _ _ (fun k_ => (P0_ k_ ∨ w.heap.size ≤ k_) ∧ some k_ ≠ (.slice Ao31 l0.length co31 : Value).ownBlock) (fun _ => False) rfl rfl ?aO ?aR (fun _ _ h => h) (fun _ h => h.elim) ?aF ?aB ?aS ?aL ?_; (case aR => repeat (first | exact (by repeat (first | (with_reducible exact HR269.out) | (with_reducible refine Kd.C_alloc ?_ _) | (with_reducible refine Kd.C_drewN ?_ _) | (with_reducible refine Kd.C_drew ?_) | exact HR269.out)) | (with_reducible refine Kd.C_alloc ?_ _) | (with_reducible refine Kd.C_drewN ?_ _) | (with_reducible refine Kd.C_drew ?_))); (case aB => exact (by repeat (first | (with_reducible first | exact HB.out | apply below_alloc | apply pw_below_drewN | apply below_drew1) | exact HB.out))); (case aF => exact (fun k_ hk => ⟨(.inr (Nat.le_trans (by first | exact HK.out.1 | exact (show Kept w _ (fun k_ => P0_ k_) from by repeat (first | (with_reducible first | exact HK.out | apply Kept.alloc | apply Kept.drewN | apply Kept.drew) | exact HK.out)).1) hk)), Kd.fresh' (Kd.R_lt (by (with_reducible repeat (first | apply Kd.R_alloc | apply Kd.R_drewN | apply Kd.R_drew)); exact HO_0.out)) k_ hk⟩)); (case aO => exact (by (with_reducible repeat (first | apply Kd.R_alloc | apply Kd.R_drewN | apply Kd.R_drew)); exact Kd.R_mono HO265.out (fun _ hk => ⟨hk.1.1, hk.2⟩))); (case aS => exact (below_size (by repeat (first | (with_reducible first | exact HB.out | apply below_alloc | apply pw_below_drewN | apply below_drew1) | exact HB.out)))); (case aL => have := LMc26.out; omega); intro v271 w35 ho hb hg hat; rw [← Ny270.out] at ho; have n0_ := Aside0.mk (Kd.R_after (ok := (fun k_ => (P0_ k_ ∨ w.heap.size ≤ k_))) (by (with_reducible repeat (first | apply Kd.R_alloc | apply Kd.R_drewN | apply Kd.R_drew)); exact HO_0.out) hg hat); have n1_ := Aside0.mk (hb); have n2_ := Aside0.mk (Kept.of_grown (S := (fun k_ => P0_ k_)) hg (by repeat (first | (with_reducible first | exact HK.out | apply Kept.alloc | apply Kept.drewN | apply Kept.drew) | exact HK.out)) (fun k_ e_ => (HO265.out.1 k_ e_).1.1)); have n3_ := Aside0.mk ((show Kd.C Kd.string w35 Ao31 y266.length y266 from by rw [Ny266.out]; exact Kd.C_take (m := (x5_1 : Int).toNat) ((Kd.R_reads' (Kd.R_after (ok := (fun k_ => (P0_ k_ ∨ w.heap.size ≤ k_))) (by (with_reducible repeat (first | apply Kd.R_alloc | apply Kd.R_drewN | apply Kd.R_drew)); exact HO_0.out) hg hat)).2.2) KL34.out)); have n4_ := Aside0.mk (ho); clear HO_0; clear HB; clear HK; clear HR269; clear HO265; have HO_0 := n0_; have HB := n1_; have HK := n2_; have HR269 := n3_; have HO272 := n4_; clear n0_ n1_ n2_ n3_ n4_; clear ho hb hg hat) | ((with_reducible refine gate_builtin (b := .append) (xs := #[.tmp 38, .tmp 40]) rfl ?_); at_builtin; refine Kd.R_append Kd.string (w0 := w0) w0.heap.size rfl (.tmp 38) (.tmp 40) 26 9 (.string ⟨#[]⟩) 16 rfl Try.underlying26 info9 rfl (by decide) (by omega) v271 y270 a1 [.string a1] (fun k_ => (P0_ k_ ∨ w.heap.size ≤ k_) ∧ some k_ ≠ (.slice Ao31 l0.length co31 : Value).ownBlock) (fun _ => False) rfl rfl ?aP (fun _ hk => hk.elim) ?aF ?aO ?aB ?aS ?aL ?_; (case aP => exact rfl); (case aB => exact (by repeat (first | (with_reducible first | exact HB.out | apply below_alloc | apply pw_below_drewN | apply below_drew1) | exact HB.out))); (case aF => exact (fun k_ hk => ⟨(.inr (Nat.le_trans (by first | exact HK.out.1 | exact (show Kept w _ (fun k_ => P0_ k_) from by repeat (first | (with_reducible first | exact HK.out | apply Kept.alloc | apply Kept.drewN | apply Kept.drew) | exact HK.out)).1) hk)), Kd.fresh' (Kd.R_lt (by (with_reducible repeat (first | apply Kd.R_alloc | apply Kd.R_drewN | apply Kd.R_drew)); exact HO_0.out)) k_ hk⟩)); (case aO => exact (by (with_reducible repeat (first | apply Kd.R_alloc | apply Kd.R_drewN | apply Kd.R_drew)); exact HO272.out)); (case aS => exact (below_size (by repeat (first | (with_reducible first | exact HB.out | apply below_alloc | apply pw_below_drewN | apply below_drew1) | exact HB.out)))); (case aL => have := LMc27.out; omega); intro v274 w36 ho hb hg hat; rw [← Ny273.out] at ho; have n0_ := Aside0.mk (Kd.R_after (ok := (fun k_ => (P0_ k_ ∨ w.heap.size ≤ k_))) (by (with_reducible repeat (first | apply Kd.R_alloc | apply Kd.R_drewN | apply Kd.R_drew)); exact HO_0.out) hg hat); have n1_ := Aside0.mk (hb); have n2_ := Aside0.mk (Kept.of_grown (S := (fun k_ => P0_ k_)) hg (by repeat (first | (with_reducible first | exact HK.out | apply Kept.alloc | apply Kept.drewN | apply Kept.drew) | exact HK.out)) (fun k_ e_ => (HO272.out.1 k_ e_).1)); have n3_ := Aside0.mk ((show Kd.C Kd.string w36 Ao31 y266.length y266 from by rw [Ny266.out]; exact Kd.C_take (m := (x5_1 : Int).toNat) ((Kd.R_reads' (Kd.R_after (ok := (fun k_ => (P0_ k_ ∨ w.heap.size ≤ k_))) (by (with_reducible repeat (first | apply Kd.R_alloc | apply Kd.R_drewN | apply Kd.R_drew)); exact HO_0.out) hg hat)).2.2) KL34.out)); have n4_ := Aside0.mk (ho); clear HO_0; clear HB; clear HK; clear HR269; clear HO272; have HO_0 := n0_; have HB := n1_; have HK := n2_; have HR269 := n3_; have HO275 := n4_; clear n0_ n1_ n2_ n3_ n4_; clear ho hb hg hat; have q37 : (x5_1 : Int) ≤ ((l0.length : Int) : Int) := of_decide_eq_true (by first | (with_reducible assumption) | assumption); obtain ⟨i037, hi037, _, hsz37, _⟩ := info_parts info9; have hroom37 : l0.length ≤ co31 := (Kd.R_reads' HO_0.out).2.1; have hC37 : Kd.C Kd.string _ Ao31 l0.length l0 := (Kd.R_reads' HO_0.out).2.2; have q037 : (0 : Int) ≤ (x5_1 : Int) := of_decide_eq_true (by first | (with_reducible assumption) | assumption); have hcut37 := cut_from (P := Try.prog) 26 9 .i64 Try.underlying26 hi037 1 hsz37 Ao31 l0.length co31 x5_1 q037 q37; have hr37 := Kd.C_drop (m := (x5_1 : Int).toNat) (c := co31) hC37 (by omega) hroom37; obtain ⟨A37, hA37⟩ : ∃ A1, A1 = (if co31 = (x5_1 : Int).toNat then Ao31 else (Ao31 : Option Addr).map (·.add ((x5_1 : Int).toNat * 1))) := ⟨_, rfl⟩; obtain ⟨c37, hc37⟩ : ∃ c1, c1 = co31 - (x5_1 : Int).toNat := ⟨_, rfl⟩; have hy37 : y276.length = l0.length - (x5_1 : Int).toNat := (by rw [Ny276.out, List.length_drop] <;> omega); rw [show (l0).drop (x5_1 : Int).toNat = y276 from Ny276.out.symm] at hr37; replace hr37 : Kd.C Kd.string _ A37 y276.length y276 := (by rw [hA37]; exact hr37); rw [← hy37, ← hA37, ← hc37] at hcut37; have HR279 := Aside0.mk hr37; have HC279 := Aside0.mk (show y276.length ≤ c37 from by rw [hy37, hc37]; exact Nat.sub_le_sub_right hroom37 _); clear hr37 hC37 hroom37 hi037 hsz37 hc37; have KY37 := Aside0.mk hy37; have KA37 := Aside0.mk hA37; clear hy37 hA37; have KL37 := Aside0.mk (show (x5_1 : Int).toNat ≤ l0.length from by omega); replace q37 := eq_true q37) | ((with_reducible refine gate_builtin (b := .append) (xs := #[.tmp 42, .tmp 45]) rfl ?_); at_builtin; refine Kd.R_append_rows Kd.string (w0 := w0) w0.heap.size rfl (.tmp 42) (.tmp 45) 26 9 (.string ⟨#[]⟩) 16 rfl Try.underlying26 info9 rfl (by decide) (by omega) v274 y273 y276 _ _ _ (fun k_ => (P0_ k_ ∨ w.heap.size ≤ k_) ∧ some k_ ≠ (.slice Ao31 l0.length co31 : Value).ownBlock) (fun _ => False) rfl rfl ?aO ?aR (fun _ _ h => h) (fun _ h => h.elim) ?aF ?aB ?aS ?aL ?_; (case aR => repeat (first | exact (by repeat (first | (with_reducible exact HR279.out) | (with_reducible refine Kd.C_alloc ?_ _) | (with_reducible refine Kd.C_drewN ?_ _) | (with_reducible refine Kd.C_drew ?_) | exact HR279.out)) | (with_reducible refine Kd.C_alloc ?_ _) | (with_reducible refine Kd.C_drewN ?_ _) | (with_reducible refine Kd.C_drew ?_))); (case aB => exact (by repeat (first | (with_reducible first | exact HB.out | apply below_alloc | apply pw_below_drewN | apply below_drew1) | exact HB.out))); (case aF => exact (fun k_ hk => ⟨(.inr (Nat.le_trans (by first | exact HK.out.1 | exact (show Kept w _ (fun k_ => P0_ k_) from by repeat (first | (with_reducible first | exact HK.out | apply Kept.alloc | apply Kept.drewN | apply Kept.drew) | exact HK.out)).1) hk)), Kd.fresh' (Kd.R_lt (by (with_reducible repeat (first | apply Kd.R_alloc | apply Kd.R_drewN | apply Kd.R_drew)); exact HO_0.out)) k_ hk⟩)); (case aO => exact (by (with_reducible repeat (first | apply Kd.R_alloc | apply Kd.R_drewN | apply Kd.R_drew)); exact HO275.out)); (case aS => exact (below_size (by repeat (first | (with_reducible first | exact HB.out | apply below_alloc | apply pw_below_drewN | apply below_drew1) | exact HB.out)))); (case aL => have := LMc30.out; omega); intro v281 w38 ho hb hg hat; rw [← Ny280.out] at ho; have n0_ := Aside0.mk (Kd.R_after (ok := (fun k_ => (P0_ k_ ∨ w.heap.size ≤ k_))) (by (with_reducible repeat (first | apply Kd.R_alloc | apply Kd.R_drewN | apply Kd.R_drew)); exact HO_0.out) hg hat); have n1_ := Aside0.mk (hb); have n2_ := Aside0.mk (Kept.of_grown (S := (fun k_ => P0_ k_)) hg (by repeat (first | (with_reducible first | exact HK.out | apply Kept.alloc | apply Kept.drewN | apply Kept.drew) | exact HK.out)) (fun k_ e_ => (HO275.out.1 k_ e_).1)); have n3_ := Aside0.mk ((show Kd.C Kd.string w38 Ao31 y266.length y266 from by rw [Ny266.out]; exact Kd.C_take (m := (x5_1 : Int).toNat) ((Kd.R_reads' (Kd.R_after (ok := (fun k_ => (P0_ k_ ∨ w.heap.size ≤ k_))) (by (with_reducible repeat (first | apply Kd.R_alloc | apply Kd.R_drewN | apply Kd.R_drew)); exact HO_0.out) hg hat)).2.2) KL34.out)); have n4_ := Aside0.mk ((show Kd.C Kd.string w38 A37 y276.length y276 from by rw [Ny276.out, KA37.out]; exact Kd.C_drop (m := (x5_1 : Int).toNat) (c := co31) ((Kd.R_reads' (Kd.R_after (ok := (fun k_ => (P0_ k_ ∨ w.heap.size ≤ k_))) (by (with_reducible repeat (first | apply Kd.R_alloc | apply Kd.R_drewN | apply Kd.R_drew)); exact HO_0.out) hg hat)).2.2) KL37.out ((Kd.R_reads' (Kd.R_after (ok := (fun k_ => (P0_ k_ ∨ w.heap.size ≤ k_))) (by (with_reducible repeat (first | apply Kd.R_alloc | apply Kd.R_drewN | apply Kd.R_drew)); exact HO_0.out) hg hat)).2.1))); have n5_ := Aside0.mk (ho); clear HO_0; clear HB; clear HK; clear HR269; clear HR279; clear HO275; have HO_0 := n0_; have HB := n1_; have HK := n2_; have HR269 := n3_; have HR279 := n4_; have HO282 := n5_; clear n0_ n1_ n2_ n3_ n4_ n5_; clear ho hb hg hat))
                  go_ret
                  exact ⟨_, by first | rfl | (simp [errW_none, errW_some] <;> rfl) | (simp [*, errW_none, errW_some] <;> rfl), by (with_reducible repeat (first | apply Kd.R_alloc | apply Kd.R_drewN | apply Kd.R_drew)); exact Kd.R_mono HO282.out (fun _ hk => hk.1), by repeat (first | (with_reducible first | exact HB.out | apply below_alloc | apply pw_below_drewN | apply below_drew1) | exact HB.out), by repeat (first | (with_reducible first | exact HK.out | apply Kept.alloc | apply Kept.drewN | apply Kept.drew) | exact HK.out)⟩
                · rw [if_neg c30] at H
                  exact absurd H (by simp)
              · rw [if_neg c27] at H
                exact absurd H (by simp)
            · rw [if_neg c26] at H
              exact absurd H (by simp)
          · rw [if_neg c25] at H
            exact absurd H (by simp)
        · rw [if_neg c24] at H
          exact absurd H (by simp)

-- NOT PRINTED: function 19 (draft_Bill_Pay)

-- NOT PRINTED: function 20 (draft_Bill_State)

-- NOT PRINTED: function 3 (supercargolaw38_DraftWay)

/-! ### supercargolaw38_heavy: function 21 -/
def supercargolaw38_heavy.l0 : Nat → List (S46) → Int → Option (Bool)
  | 0, _, _ => none
  | k + 1, x0, x5 => if x5 < (x0.length : Int) then (if 0 ≤ x5 then (if (((rd_T46 x0 x5).f1).size : Int) > 100 then (some true) else (if (((rd_T46 x0 x5).f2).size : Int) > 100 then (some true) else (supercargolaw38_heavy.l0 k x0 (wrap64 (x5 + 1))))) else (none)) else (some false)
def supercargolaw38_heavy.f (k : Nat) (l0 : List (S46)) (a1 : Int) : Option (Bool) := if (l0.length : Int) > a1 then (some true) else (supercargolaw38_heavy.l0 k l0 0)
theorem supercargolaw38_heavy.mono_l : ∀ k, (∀ y0 y1, LeO (supercargolaw38_heavy.l0 k y0 y1) (supercargolaw38_heavy.l0 (k + 1) y0 y1))
  | 0 => fun _ _ r h => by simp [supercargolaw38_heavy.l0] at h
  | k + 1 => by
    have ih0 := supercargolaw38_heavy.mono_l k
    · intro y0 y1
      unfold supercargolaw38_heavy.l0
      repeat' first
      | (with_reducible exact ih0 _ _)
      | (with_reducible exact LeO.refl _)
      | (with_reducible exact LeO.none _)
      | (with_reducible refine LeO.ite ?_ ?_)
      | (with_reducible refine LeO.bind ?_ (fun _ => ?_))
      | exact ih0 _ _
      | exact LeO.none _
      | refine LeO.ite ?_ ?_
      | refine LeO.bind ?_ (fun _ => ?_)
theorem supercargolaw38_heavy.mono : ∀ a0 a1 k, LeO (supercargolaw38_heavy.f k a0 a1) (supercargolaw38_heavy.f (k + 1) a0 a1) := by
  intro a0 a1 k
  have ih0 := supercargolaw38_heavy.mono_l k
  unfold supercargolaw38_heavy.f
  repeat' first
      | (with_reducible exact ih0 _ _)
      | (with_reducible exact LeO.refl _)
      | (with_reducible exact LeO.none _)
      | (with_reducible refine LeO.ite ?_ ?_)
      | (with_reducible refine LeO.bind ?_ (fun _ => ?_))
      | exact ih0 _ _
      | exact LeO.none _
      | refine LeO.ite ?_ ?_
      | refine LeO.bind ?_ (fun _ => ?_)
set_option maxHeartbeats 8000000 in
set_option maxRecDepth 100000 in
theorem supercargolaw38_heavy.calls (k : Nat) (A0 : Option Addr) (c0 : Nat) (l0 : List (S46)) (a1 : Int) (r : Bool) (w : World) (hr0 : Kd.C k46 w A0 l0.length l0) (hc0 : l0.length ≤ c0) (h : supercargolaw38_heavy.f k l0 a1 = some r) :
    Calls Try.prog 21 #[.slice A0 l0.length c0, .int .i64 a1] w fun e w' => e = .returned (.bool r) ∧ Drawn0 w w' := by
  have HR0 := Aside0.mk hr0
  have HC0 := Aside0.mk hc0
  clear hr0 hc0
  have H : (if (l0.length : Int) > a1 then (some true) else (supercargolaw38_heavy.l0 k l0 0)) = some r := h
  clear h
  by_cases c3 : (l0.length : Int) > a1
  · rw [if_pos c3] at H
    have c3b0 : decide (a1 < (l0.length : Int)) = true := decide_eq_true c3
    clear c3
    obtain rfl := Option.some.inj H
    go_enter Try.func21, Try.ntmps21
    go_wp2
    go_ret
    exact ⟨by first | rfl | (simp; done) | (simp [*]; done), by repeat (first | exact Drawn0.refl _ | apply Drawn0.step)⟩
  · rw [if_neg c3] at H
    have c3b0 : decide (a1 < (l0.length : Int)) = false := decide_eq_false c3
    clear c3
    have H' := Aside0.mk H
    clear H
    go_enter Try.func21, Try.ntmps21
    go_wp2
    go_loopg [5] k (fun kq v5 w' => ∃ (x5_1 : Int), v5 = .int .i64 x5_1 ∧ Aside0 (supercargolaw38_heavy.l0 kq l0 x5_1 = some r) ∧ Aside0 (kq ≤ k) ∧ Drawn0 w w')
    case atStart => exact ⟨(0), (by first | rfl | (simp; done) | (simp [*]; done)), H', ⟨Nat.le_refl _⟩, by repeat (first | exact Drawn0.refl _ | apply Drawn0.step)⟩
    case round =>
      clear H'
      try clear c2
      try clear p2
      try clear c3
      try clear c3b0
      obtain ⟨x5_1, rfl, HA, HK1, ⟨m1, rfl⟩⟩ := hrel
      cases gk with
      | zero => exact absurd HA.out (by simp [supercargolaw38_heavy.l0])
      | succ k1 =>
        have H := HA.out
        clear HA
        simp only [supercargolaw38_heavy.l0] at H
        by_cases c4 : x5_1 < (l0.length : Int)
        · rw [if_pos c4] at H
          have c4b0 : decide (x5_1 < (l0.length : Int)) = true := decide_eq_true c4
          clear c4
          by_cases c5 : 0 ≤ x5_1
          · rw [if_pos c5] at H
            have c5b0 : decide (0 ≤ x5_1) = true := decide_eq_true c5
            clear c5
            by_cases c6 : (((rd_T46 l0 x5_1).f1).size : Int) > 100
            · rw [if_pos c6] at H
              have c6b0 : decide (100 < (((rd_T46 l0 x5_1).f1).size : Int)) = true := decide_eq_true c6
              have c6b1 : decide (100 < ((rd_T46 l0 x5_1).f1).size) = true := decide_eq_true (by omega)
              clear c6
              obtain rfl := Option.some.inj H
              have p284 : 0 ≤ (x5_1 : Int) := of_decide_eq_true (by first | (with_reducible assumption) | assumption)
              have q284 : x5_1 < (l0.length : Int) := of_decide_eq_true (by first | (with_reducible assumption) | assumption)
              obtain ⟨ad284, e284, hx284_0, hx284_1, hx284_2, hx284_3⟩ := at_T46 HR0.out x5_1 p284 q284
              cases e284
              replace p284 := eq_true p284
              replace q284 := eq_true q284
              go_wp2
              go_ret
              exact ⟨by first | rfl | (simp; done) | (simp [*]; done), by repeat (first | exact Drawn0.refl _ | apply Drawn0.step)⟩
            · rw [if_neg c6] at H
              have c6b0 : decide (100 < (((rd_T46 l0 x5_1).f1).size : Int)) = false := decide_eq_false c6
              have c6b1 : decide (100 < ((rd_T46 l0 x5_1).f1).size) = false := decide_eq_false (by omega)
              clear c6
              by_cases c7 : (((rd_T46 l0 x5_1).f2).size : Int) > 100
              · rw [if_pos c7] at H
                have c7b0 : decide (100 < (((rd_T46 l0 x5_1).f2).size : Int)) = true := decide_eq_true c7
                have c7b1 : decide (100 < ((rd_T46 l0 x5_1).f2).size) = true := decide_eq_true (by omega)
                clear c7
                obtain rfl := Option.some.inj H
                have p284 : 0 ≤ (x5_1 : Int) := of_decide_eq_true (by first | (with_reducible assumption) | assumption)
                have q284 : x5_1 < (l0.length : Int) := of_decide_eq_true (by first | (with_reducible assumption) | assumption)
                obtain ⟨ad284, e284, hx284_0, hx284_1, hx284_2, hx284_3⟩ := at_T46 HR0.out x5_1 p284 q284
                cases e284
                replace p284 := eq_true p284
                replace q284 := eq_true q284
                have p285 : 0 ≤ (x5_1 : Int) := of_decide_eq_true (by first | (with_reducible assumption) | assumption)
                have q285 : x5_1 < (l0.length : Int) := of_decide_eq_true (by first | (with_reducible assumption) | assumption)
                obtain ⟨ad285, e285, hx285_0, hx285_1, hx285_2, hx285_3⟩ := at_T46 HR0.out x5_1 p285 q285
                obtain rfl : ad284 = ad285 := (by injection e285)
                replace p285 := eq_true p285
                replace q285 := eq_true q285
                go_wp2
                go_ret
                exact ⟨by first | rfl | (simp; done) | (simp [*]; done), by repeat (first | exact Drawn0.refl _ | apply Drawn0.step)⟩
              · rw [if_neg c7] at H
                have c7b0 : decide (100 < (((rd_T46 l0 x5_1).f2).size : Int)) = false := decide_eq_false c7
                have c7b1 : decide (100 < ((rd_T46 l0 x5_1).f2).size) = false := decide_eq_false (by omega)
                clear c7
                have H' := Aside0.mk H
                clear H
                have p284 : 0 ≤ (x5_1 : Int) := of_decide_eq_true (by first | (with_reducible assumption) | assumption)
                have q284 : x5_1 < (l0.length : Int) := of_decide_eq_true (by first | (with_reducible assumption) | assumption)
                obtain ⟨ad284, e284, hx284_0, hx284_1, hx284_2, hx284_3⟩ := at_T46 HR0.out x5_1 p284 q284
                cases e284
                replace p284 := eq_true p284
                replace q284 := eq_true q284
                have p285 : 0 ≤ (x5_1 : Int) := of_decide_eq_true (by first | (with_reducible assumption) | assumption)
                have q285 : x5_1 < (l0.length : Int) := of_decide_eq_true (by first | (with_reducible assumption) | assumption)
                obtain ⟨ad285, e285, hx285_0, hx285_1, hx285_2, hx285_3⟩ := at_T46 HR0.out x5_1 p285 q285
                obtain rfl : ad284 = ad285 := (by injection e285)
                replace p285 := eq_true p285
                replace q285 := eq_true q285
                go_wp2
                go_roundg k1
                case measure => have := HK1.out; omega
                case rel => exact ⟨(wrap64 (x5_1 + 1)), (by first | rfl | (simp; done) | (simp [*]; done)), H', ⟨by have := HK1.out; omega⟩, by repeat (first | exact Drawn0.refl _ | apply Drawn0.step)⟩
          · rw [if_neg c5] at H
            exact absurd H (by simp)
        · rw [if_neg c4] at H
          have c4b0 : decide (x5_1 < (l0.length : Int)) = false := decide_eq_false c4
          clear c4
          obtain rfl := Option.some.inj H
          go_wp2
          go_ret
          exact ⟨by first | rfl | (simp; done) | (simp [*]; done), by repeat (first | exact Drawn0.refl _ | apply Drawn0.step)⟩

-- NOT PRINTED: function 41 (draft_Bill_Protest)

-- NOT PRINTED: function 22 (supercargolaw38_do)

-- NOT PRINTED: function 4 (supercargolaw38_DraftOnce)

-- NOT PRINTED: function 5 (supercargolaw38_DraftLiable)

/-! ### supercargoref38_in: function 43 -/
def supercargoref38_in.l0 : Nat → List ByteArray → ByteArray → Int → Option (Bool)
  | 0, _, _, _ => none
  | k + 1, x0, x1, x5 => if x5 < (x0.length : Int) then (if 0 ≤ x5 then (if (rdOf ByteArray.empty x0 x5).toList = x1.toList then (some true) else (supercargoref38_in.l0 k x0 x1 (wrap64 (x5 + 1)))) else (none)) else (some false)
def supercargoref38_in.f (k : Nat) (l0 : List ByteArray) (a1 : ByteArray) : Option (Bool) := supercargoref38_in.l0 k l0 a1 0
theorem supercargoref38_in.mono_l : ∀ k, (∀ y0 y1 y2, LeO (supercargoref38_in.l0 k y0 y1 y2) (supercargoref38_in.l0 (k + 1) y0 y1 y2))
  | 0 => fun _ _ _ r h => by simp [supercargoref38_in.l0] at h
  | k + 1 => by
    have ih0 := supercargoref38_in.mono_l k
    · intro y0 y1 y2
      unfold supercargoref38_in.l0
      repeat' first
      | (with_reducible exact ih0 _ _ _)
      | (with_reducible exact LeO.refl _)
      | (with_reducible exact LeO.none _)
      | (with_reducible refine LeO.ite ?_ ?_)
      | (with_reducible refine LeO.bind ?_ (fun _ => ?_))
      | exact ih0 _ _ _
      | exact LeO.none _
      | refine LeO.ite ?_ ?_
      | refine LeO.bind ?_ (fun _ => ?_)
theorem supercargoref38_in.mono : ∀ a0 a1 k, LeO (supercargoref38_in.f k a0 a1) (supercargoref38_in.f (k + 1) a0 a1) := by
  intro a0 a1 k
  have ih0 := supercargoref38_in.mono_l k
  unfold supercargoref38_in.f
  repeat' first
      | (with_reducible exact ih0 _ _ _)
      | (with_reducible exact LeO.refl _)
      | (with_reducible exact LeO.none _)
      | (with_reducible refine LeO.ite ?_ ?_)
      | (with_reducible refine LeO.bind ?_ (fun _ => ?_))
      | exact ih0 _ _ _
      | exact LeO.none _
      | refine LeO.ite ?_ ?_
      | refine LeO.bind ?_ (fun _ => ?_)
set_option maxHeartbeats 8000000 in
set_option maxRecDepth 100000 in
theorem supercargoref38_in.calls (k : Nat) (A0 : Option Addr) (c0 : Nat) (l0 : List ByteArray) (a1 : ByteArray) (r : Bool) (w : World) (hr0 : Kd.C Kd.string w A0 l0.length l0) (hc0 : l0.length ≤ c0) (h : supercargoref38_in.f k l0 a1 = some r) :
    Calls Try.prog 43 #[.slice A0 l0.length c0, .string a1] w fun e w' => e = .returned (.bool r) ∧ Drawn0 w w' := by
  have HR0 := Aside0.mk hr0
  have HC0 := Aside0.mk hc0
  clear hr0 hc0
  have H : (supercargoref38_in.l0 k l0 a1 0) = some r := h
  clear h
  have H' := Aside0.mk H
  clear H
  go_enter Try.func43, Try.ntmps43
  go_wp2
  go_loopg [5] k (fun kq v5 w' => ∃ (x5_1 : Int), v5 = .int .i64 x5_1 ∧ Aside0 (supercargoref38_in.l0 kq l0 a1 x5_1 = some r) ∧ Aside0 (kq ≤ k) ∧ Drawn0 w w')
  case atStart => exact ⟨(0), (by first | rfl | (simp; done) | (simp [*]; done)), H', ⟨Nat.le_refl _⟩, by repeat (first | exact Drawn0.refl _ | apply Drawn0.step)⟩
  case round =>
    clear H'
    try clear p2
    obtain ⟨x5_1, rfl, HA, HK1, ⟨m1, rfl⟩⟩ := hrel
    cases gk with
    | zero => exact absurd HA.out (by simp [supercargoref38_in.l0])
    | succ k1 =>
      have H := HA.out
      clear HA
      simp only [supercargoref38_in.l0] at H
      by_cases c3 : x5_1 < (l0.length : Int)
      · rw [if_pos c3] at H
        have c3b0 : decide (x5_1 < (l0.length : Int)) = true := decide_eq_true c3
        clear c3
        by_cases c4 : 0 ≤ x5_1
        · rw [if_pos c4] at H
          have c4b0 : decide (0 ≤ x5_1) = true := decide_eq_true c4
          clear c4
          by_cases c5 : (rdOf ByteArray.empty l0 x5_1).toList = a1.toList
          · rw [if_pos c5] at H
            have c5b0 : ((rdOf ByteArray.empty l0 x5_1).toList == a1.toList) = true := beq_iff_eq.mpr c5
            have c5b1 : ((rdOf ByteArray.empty l0 x5_1).toList != a1.toList) = false := bne_eq_false_iff_eq.mpr c5
            clear c5
            obtain rfl := Option.some.inj H
            have p288 : 0 ≤ (x5_1 : Int) := of_decide_eq_true (by first | (with_reducible assumption) | assumption)
            have q288 : x5_1 < (l0.length : Int) := of_decide_eq_true (by first | (with_reducible assumption) | assumption)
            obtain ⟨ad288, e288, hx288_0⟩ := Kd.at_string HR0.out x5_1 p288 q288
            cases e288
            replace p288 := eq_true p288
            replace q288 := eq_true q288
            go_wp2
            go_ret
            exact ⟨by first | rfl | (simp; done) | (simp [*]; done), by repeat (first | exact Drawn0.refl _ | apply Drawn0.step)⟩
          · rw [if_neg c5] at H
            have c5b0 : ((rdOf ByteArray.empty l0 x5_1).toList == a1.toList) = false := beq_eq_false_iff_ne.mpr c5
            have c5b1 : ((rdOf ByteArray.empty l0 x5_1).toList != a1.toList) = true := bne_iff_ne.mpr c5
            have H' := Aside0.mk H
            clear H
            have p288 : 0 ≤ (x5_1 : Int) := of_decide_eq_true (by first | (with_reducible assumption) | assumption)
            have q288 : x5_1 < (l0.length : Int) := of_decide_eq_true (by first | (with_reducible assumption) | assumption)
            obtain ⟨ad288, e288, hx288_0⟩ := Kd.at_string HR0.out x5_1 p288 q288
            cases e288
            replace p288 := eq_true p288
            replace q288 := eq_true q288
            go_wp2
            go_roundg k1
            case measure => have := HK1.out; omega
            case rel => exact ⟨(wrap64 (x5_1 + 1)), (by first | rfl | (simp; done) | (simp [*]; done)), H', ⟨by have := HK1.out; omega⟩, by repeat (first | exact Drawn0.refl _ | apply Drawn0.step)⟩
        · rw [if_neg c4] at H
          exact absurd H (by simp)
      · rw [if_neg c3] at H
        have c3b0 : decide (x5_1 < (l0.length : Int)) = false := decide_eq_false c3
        clear c3
        obtain rfl := Option.some.inj H
        go_wp2
        go_ret
        exact ⟨by first | rfl | (simp; done) | (simp [*]; done), by repeat (first | exact Drawn0.refl _ | apply Drawn0.step)⟩

-- NOT PRINTED: function 44 (supercargoref38_Bill_Liable)

-- NOT PRINTED: function 25 (supercargoref38_Bill_Do)

/-- A state of type 53 at block g of W; what its slices lead to came in by w0. -/
def IsS53 (w0 W : World) (g : Nat) (f0 : ByteArray) (f1 : ByteArray) (f2 : ByteArray) (f3 : ByteArray) (f4 : ByteArray) (f5 : Int) (f6 : Int) (f7 : Int) (f8 : Int) (f9 : Int) (f10 : Bool) (f11 : ByteArray) (f12 : List ByteArray) (f13 : Int) : Prop := ∃ A12 c12, W.heap[g]? = some (.cells #[.string f0, .string f1, .string f2, .string f3, .string f4, .int .i64 f5, .int .i64 f6, .int .i64 f7, .int .i64 f8, .int .i64 f9, .bool f10, .string f11, .slice A12 f12.length c12, .int .i64 f13] 53 (0, 0)) ∧ w0.heap.size ≤ g ∧ Kd.C Kd.string w0 A12 f12.length f12
theorem IsS53.grown {w0 W : World} {g : Nat} {f0 : ByteArray} {f1 : ByteArray} {f2 : ByteArray} {f3 : ByteArray} {f4 : ByteArray} {f5 : Int} {f6 : Int} {f7 : Int} {f8 : Int} {f9 : Int} {f10 : Bool} {f11 : ByteArray} {f12 : List ByteArray} {f13 : Int} {W1 : World} {row : Option Nat} (h : IsS53 w0 W g f0 f1 f2 f3 f4 f5 f6 f7 f8 f9 f10 f11 f12 f13) (hw : W.grownBy W1 row) (hne : some g ≠ row) : IsS53 w0 W1 g f0 f1 f2 f3 f4 f5 f6 f7 f8 f9 f10 f11 f12 f13 := by
  obtain ⟨A12, c12, hb, hg, hr12⟩ := h
  exact ⟨A12, c12, blk_grown hb hw hne, hg, hr12⟩
theorem IsS53.own_neN {w0 W : World} {g : Nat} {f0 : ByteArray} {f1 : ByteArray} {f2 : ByteArray} {f3 : ByteArray} {f4 : ByteArray} {f5 : Int} {f6 : Int} {f7 : Int} {f8 : Int} {f9 : Int} {f10 : Bool} {f11 : ByteArray} {f12 : List ByteArray} {f13 : Int} {α : Type} {d : Kd α} {e : Nat} {base : Nat} {ok : Nat → Prop} {v : Value} {xs : List α} (h : IsS53 w0 W g f0 f1 f2 f3 f4 f5 f6 f7 f8 f9 f10 f11 f12 f13) (ho : Kd.N d e W base ok v xs) (ht : e ≠ 53) : some g ≠ v.ownBlock := by
  obtain ⟨A12, c12, hb, hg, hr12⟩ := h
  exact Kd.N_ne ho hb ht
theorem IsS53.fresh {w0 W : World} {g : Nat} {f0 : ByteArray} {f1 : ByteArray} {f2 : ByteArray} {f3 : ByteArray} {f4 : ByteArray} {f5 : Int} {f6 : Int} {f7 : Int} {f8 : Int} {f9 : Int} {f10 : Bool} {f11 : ByteArray} {f12 : List ByteArray} {f13 : Int} (h : IsS53 w0 W g f0 f1 f2 f3 f4 f5 f6 f7 f8 f9 f10 f11 f12 f13) : ∀ k, W.heap.size ≤ k → k ≠ g := by
  obtain ⟨A12, c12, hb, hg, hr12⟩ := h
  exact Kd.freshB hb
theorem IsS53.kept {w0 W : World} {g : Nat} {f0 : ByteArray} {f1 : ByteArray} {f2 : ByteArray} {f3 : ByteArray} {f4 : ByteArray} {f5 : Int} {f6 : Int} {f7 : Int} {f8 : Int} {f9 : Int} {f10 : Bool} {f11 : ByteArray} {f12 : List ByteArray} {f13 : Int} {W1 : World} {S : Nat → Prop} (h : IsS53 w0 W g f0 f1 f2 f3 f4 f5 f6 f7 f8 f9 f10 f11 f12 f13) (hk : Kept W W1 S) (hne : ¬ S g) : IsS53 w0 W1 g f0 f1 f2 f3 f4 f5 f6 f7 f8 f9 f10 f11 f12 f13 := by
  obtain ⟨A12, c12, hb, hg, hr12⟩ := h
  exact ⟨A12, c12, blk_kept hb hk hne, hg, hr12⟩
theorem IsS53.below {w0 W : World} {g : Nat} {f0 : ByteArray} {f1 : ByteArray} {f2 : ByteArray} {f3 : ByteArray} {f4 : ByteArray} {f5 : Int} {f6 : Int} {f7 : Int} {f8 : Int} {f9 : Int} {f10 : Bool} {f11 : ByteArray} {f12 : List ByteArray} {f13 : Int} {W1 : World} (h : IsS53 w0 W g f0 f1 f2 f3 f4 f5 f6 f7 f8 f9 f10 f11 f12 f13) (hw : Below W.heap.size W W1) : IsS53 w0 W1 g f0 f1 f2 f3 f4 f5 f6 f7 f8 f9 f10 f11 f12 f13 := h.grown (grown_of_below hw none) (by simp)
theorem IsS53.alloc {w0 W : World} {g : Nat} {f0 : ByteArray} {f1 : ByteArray} {f2 : ByteArray} {f3 : ByteArray} {f4 : ByteArray} {f5 : Int} {f6 : Int} {f7 : Int} {f8 : Int} {f9 : Int} {f10 : Bool} {f11 : ByteArray} {f12 : List ByteArray} {f13 : Int} (h : IsS53 w0 W g f0 f1 f2 f3 f4 f5 f6 f7 f8 f9 f10 f11 f12 f13) (o : Obj) : IsS53 w0 (W.alloc o) g f0 f1 f2 f3 f4 f5 f6 f7 f8 f9 f10 f11 f12 f13 := h.below (below_alloc (Below.refl _ _) o)
theorem IsS53.drewN {w0 W : World} {g : Nat} {f0 : ByteArray} {f1 : ByteArray} {f2 : ByteArray} {f3 : ByteArray} {f4 : ByteArray} {f5 : Int} {f6 : Int} {f7 : Int} {f8 : Int} {f9 : Int} {f10 : Bool} {f11 : ByteArray} {f12 : List ByteArray} {f13 : Int} (h : IsS53 w0 W g f0 f1 f2 f3 f4 f5 f6 f7 f8 f9 f10 f11 f12 f13) (m : Nat) : IsS53 w0 (W.drewN m) g f0 f1 f2 f3 f4 f5 f6 f7 f8 f9 f10 f11 f12 f13 := h
theorem IsS53.drew {w0 W : World} {g : Nat} {f0 : ByteArray} {f1 : ByteArray} {f2 : ByteArray} {f3 : ByteArray} {f4 : ByteArray} {f5 : Int} {f6 : Int} {f7 : Int} {f8 : Int} {f9 : Int} {f10 : Bool} {f11 : ByteArray} {f12 : List ByteArray} {f13 : Int} (h : IsS53 w0 W g f0 f1 f2 f3 f4 f5 f6 f7 f8 f9 f10 f11 f12 f13) : IsS53 w0 W.drew g f0 f1 f2 f3 f4 f5 f6 f7 f8 f9 f10 f11 f12 f13 := h
theorem IsS53.at_ {w0 W : World} {g : Nat} {f0 : ByteArray} {f1 : ByteArray} {f2 : ByteArray} {f3 : ByteArray} {f4 : ByteArray} {f5 : Int} {f6 : Int} {f7 : Int} {f8 : Int} {f9 : Int} {f10 : Bool} {f11 : ByteArray} {f12 : List ByteArray} {f13 : Int} {w' : World} {m : Nat} (hq : W.drewN m = w') (h : IsS53 w0 W g f0 f1 f2 f3 f4 f5 f6 f7 f8 f9 f10 f11 f12 f13) : IsS53 w0 w' g f0 f1 f2 f3 f4 f5 f6 f7 f8 f9 f10 f11 f12 f13 := by subst hq; exact IsS53.drewN h m
theorem IsS53.apart {w0 W : World} {g : Nat} {f0 : ByteArray} {f1 : ByteArray} {f2 : ByteArray} {f3 : ByteArray} {f4 : ByteArray} {f5 : Int} {f6 : Int} {f7 : Int} {f8 : Int} {f9 : Int} {f10 : Bool} {f11 : ByteArray} {f12 : List ByteArray} {f13 : Int} {α : Type} {d : Kd α} {e : Nat} {base : Nat} {ok : Nat → Prop} {v : Value} {xs : List α} (h : IsS53 w0 W g f0 f1 f2 f3 f4 f5 f6 f7 f8 f9 f10 f11 f12 f13) (ho : d.R e W base ok v xs) (ht : ∀ q, q ∈ e :: d.E → q ≠ 53) : d.R e W base (fun k => ok k ∧ k ≠ g) v xs := by
  obtain ⟨A12, c12, hb, hg, hr12⟩ := h
  exact Kd.R_types ho hb ht
theorem IsS53.own_ne {w0 W : World} {g : Nat} {f0 : ByteArray} {f1 : ByteArray} {f2 : ByteArray} {f3 : ByteArray} {f4 : ByteArray} {f5 : Int} {f6 : Int} {f7 : Int} {f8 : Int} {f9 : Int} {f10 : Bool} {f11 : ByteArray} {f12 : List ByteArray} {f13 : Int} {α : Type} {d : Kd α} {e : Nat} {base : Nat} {ok : Nat → Prop} {v : Value} {xs : List α} (h : IsS53 w0 W g f0 f1 f2 f3 f4 f5 f6 f7 f8 f9 f10 f11 f12 f13) (ho : d.R e W base ok v xs) (ht : e ≠ 53) : some g ≠ v.ownBlock := by
  obtain ⟨A12, c12, hb, hg, hr12⟩ := h
  exact Kd.R_ne ho hb ht
theorem IsS53.apartQ {w0 W : World} {g : Nat} {f0 : ByteArray} {f1 : ByteArray} {f2 : ByteArray} {f3 : ByteArray} {f4 : ByteArray} {f5 : Int} {f6 : Int} {f7 : Int} {f8 : Int} {f9 : Int} {f10 : Bool} {f11 : ByteArray} {f12 : List ByteArray} {f13 : Int} {α : Type} {d : Kd α} {e : Nat} {base : Nat} {ok : Nat → Prop} {v : Value} {xs : List α} (h : IsS53 w0 W g f0 f1 f2 f3 f4 f5 f6 f7 f8 f9 f10 f11 f12 f13) (ho : d.Q e W base ok v xs) (ht : ∀ q, q ∈ e :: d.E → q ≠ 53) : d.Q e W base (fun k => ok k ∧ k ≠ g) v xs := by
  obtain ⟨A12, c12, hb, hg, hr12⟩ := h
  exact Kd.Q_types ho hb ht
theorem IsS53.own_neQ {w0 W : World} {g : Nat} {f0 : ByteArray} {f1 : ByteArray} {f2 : ByteArray} {f3 : ByteArray} {f4 : ByteArray} {f5 : Int} {f6 : Int} {f7 : Int} {f8 : Int} {f9 : Int} {f10 : Bool} {f11 : ByteArray} {f12 : List ByteArray} {f13 : Int} {α : Type} {d : Kd α} {e : Nat} {base : Nat} {ok : Nat → Prop} {v : Value} {xs : List α} (h : IsS53 w0 W g f0 f1 f2 f3 f4 f5 f6 f7 f8 f9 f10 f11 f12 f13) (ho : d.Q e W base ok v xs) (ht : e ≠ 53) : some g ≠ v.ownBlock := by
  obtain ⟨A12, c12, hb, hg, hr12⟩ := h
  exact Kd.Q_ne ho hb ht
theorem IsS53.apartS {w0 W : World} {g : Nat} {f0 : ByteArray} {f1 : ByteArray} {f2 : ByteArray} {f3 : ByteArray} {f4 : ByteArray} {f5 : Int} {f6 : Int} {f7 : Int} {f8 : Int} {f9 : Int} {f10 : Bool} {f11 : ByteArray} {f12 : List ByteArray} {f13 : Int} {α : Type} {d : Kd α} {e : Nat} {base : Nat} {ok : Nat → Prop} {v : Value} {xs : List α} (h : IsS53 w0 W g f0 f1 f2 f3 f4 f5 f6 f7 f8 f9 f10 f11 f12 f13) (ho : d.S e W base ok v xs) (ht : ∀ q, q ∈ e :: d.E → q ≠ 53) : d.S e W base (fun k => ok k ∧ k ≠ g) v xs := by
  obtain ⟨A12, c12, hb, hg, hr12⟩ := h
  exact Kd.S_types ho hb ht
theorem IsS53.own_neS {w0 W : World} {g : Nat} {f0 : ByteArray} {f1 : ByteArray} {f2 : ByteArray} {f3 : ByteArray} {f4 : ByteArray} {f5 : Int} {f6 : Int} {f7 : Int} {f8 : Int} {f9 : Int} {f10 : Bool} {f11 : ByteArray} {f12 : List ByteArray} {f13 : Int} {α : Type} {d : Kd α} {e : Nat} {base : Nat} {ok : Nat → Prop} {v : Value} {xs : List α} (h : IsS53 w0 W g f0 f1 f2 f3 f4 f5 f6 f7 f8 f9 f10 f11 f12 f13) (ho : d.S e W base ok v xs) (ht : e ≠ 53) : some g ≠ v.ownBlock := by
  obtain ⟨A12, c12, hb, hg, hr12⟩ := h
  exact Kd.S_ne ho hb ht
theorem IsS53.lt {w0 W : World} {g : Nat} {f0 : ByteArray} {f1 : ByteArray} {f2 : ByteArray} {f3 : ByteArray} {f4 : ByteArray} {f5 : Int} {f6 : Int} {f7 : Int} {f8 : Int} {f9 : Int} {f10 : Bool} {f11 : ByteArray} {f12 : List ByteArray} {f13 : Int} (h : IsS53 w0 W g f0 f1 f2 f3 f4 f5 f6 f7 f8 f9 f10 f11 f12 f13) : g < W.heap.size := by
  obtain ⟨A12, c12, hb, hg, hr12⟩ := h
  exact blk_lt hb
theorem IsS53.ge {w0 W : World} {g : Nat} {f0 : ByteArray} {f1 : ByteArray} {f2 : ByteArray} {f3 : ByteArray} {f4 : ByteArray} {f5 : Int} {f6 : Int} {f7 : Int} {f8 : Int} {f9 : Int} {f10 : Bool} {f11 : ByteArray} {f12 : List ByteArray} {f13 : Int} (h : IsS53 w0 W g f0 f1 f2 f3 f4 f5 f6 f7 f8 f9 f10 f11 f12 f13) : w0.heap.size ≤ g := by
  obtain ⟨A12, c12, hb, hg, hr12⟩ := h
  exact hg
theorem IsS53.ne_blk {w0 W : World} {g : Nat} {f0 : ByteArray} {f1 : ByteArray} {f2 : ByteArray} {f3 : ByteArray} {f4 : ByteArray} {f5 : Int} {f6 : Int} {f7 : Int} {f8 : Int} {f9 : Int} {f10 : Bool} {f11 : ByteArray} {f12 : List ByteArray} {f13 : Int} {a : Nat} {cs : Array Value} {t : TypeId} {fr : Nat × Nat} (h : IsS53 w0 W g f0 f1 f2 f3 f4 f5 f6 f7 f8 f9 f10 f11 f12 f13) (hb2 : W.heap[a]? = some (.cells cs t fr)) (ht : t ≠ 53) : g ≠ a := by
  obtain ⟨A12, c12, hb, hg, hr12⟩ := h
  rintro rfl
  rw [hb] at hb2
  injection hb2 with hb2
  injection hb2 with _ ht2
  exact ht ht2.symm
theorem IsS53.far {w0 W : World} {g : Nat} {f0 : ByteArray} {f1 : ByteArray} {f2 : ByteArray} {f3 : ByteArray} {f4 : ByteArray} {f5 : Int} {f6 : Int} {f7 : Int} {f8 : Int} {f9 : Int} {f10 : Bool} {f11 : ByteArray} {f12 : List ByteArray} {f13 : Int} {p : Addr} (h : IsS53 w0 W g f0 f1 f2 f3 f4 f5 f6 f7 f8 f9 f10 f11 f12 f13) (hne : g ≠ p.block) (u : Value) : IsS53 w0 (W.setCell p u) g f0 f1 f2 f3 f4 f5 f6 f7 f8 f9 f10 f11 f12 f13 := by
  obtain ⟨A12, c12, hb, hg, hr12⟩ := h
  exact ⟨A12, c12, blk_far hb hne u, hg, hr12⟩
theorem cellS53_0 {W : World} {g : Nat} {A12 : Option Addr} {c12 : Nat} {f0 : ByteArray} {f1 : ByteArray} {f2 : ByteArray} {f3 : ByteArray} {f4 : ByteArray} {f5 : Int} {f6 : Int} {f7 : Int} {f8 : Int} {f9 : Int} {f10 : Bool} {f11 : ByteArray} {f12 : List ByteArray} {f13 : Int} (h : W.heap[g]? = some (.cells #[.string f0, .string f1, .string f2, .string f3, .string f4, .int .i64 f5, .int .i64 f6, .int .i64 f7, .int .i64 f8, .int .i64 f9, .bool f10, .string f11, .slice A12 f12.length c12, .int .i64 f13] 53 (0, 0))) : W.cell? ⟨g, 0, none⟩ = some (.string f0) := (blk_cell h 0).trans rfl
theorem IsS53.set_0 {w0 W : World} {g : Nat} {f0 : ByteArray} {f1 : ByteArray} {f2 : ByteArray} {f3 : ByteArray} {f4 : ByteArray} {f5 : Int} {f6 : Int} {f7 : Int} {f8 : Int} {f9 : Int} {f10 : Bool} {f11 : ByteArray} {f12 : List ByteArray} {f13 : Int} (h : IsS53 w0 W g f0 f1 f2 f3 f4 f5 f6 f7 f8 f9 f10 f11 f12 f13) (x : ByteArray) : IsS53 w0 (W.setCell ⟨g, 0, none⟩ (.string x)) g x f1 f2 f3 f4 f5 f6 f7 f8 f9 f10 f11 f12 f13 := by
  obtain ⟨A12, c12, hb, hg, hr12⟩ := h
  exact ⟨A12, c12, by simpa using blk_set hb 0 (.string x), hg, hr12⟩
theorem cellS53_1 {W : World} {g : Nat} {A12 : Option Addr} {c12 : Nat} {f0 : ByteArray} {f1 : ByteArray} {f2 : ByteArray} {f3 : ByteArray} {f4 : ByteArray} {f5 : Int} {f6 : Int} {f7 : Int} {f8 : Int} {f9 : Int} {f10 : Bool} {f11 : ByteArray} {f12 : List ByteArray} {f13 : Int} (h : W.heap[g]? = some (.cells #[.string f0, .string f1, .string f2, .string f3, .string f4, .int .i64 f5, .int .i64 f6, .int .i64 f7, .int .i64 f8, .int .i64 f9, .bool f10, .string f11, .slice A12 f12.length c12, .int .i64 f13] 53 (0, 0))) : W.cell? ⟨g, 1, none⟩ = some (.string f1) := (blk_cell h 1).trans rfl
theorem IsS53.set_1 {w0 W : World} {g : Nat} {f0 : ByteArray} {f1 : ByteArray} {f2 : ByteArray} {f3 : ByteArray} {f4 : ByteArray} {f5 : Int} {f6 : Int} {f7 : Int} {f8 : Int} {f9 : Int} {f10 : Bool} {f11 : ByteArray} {f12 : List ByteArray} {f13 : Int} (h : IsS53 w0 W g f0 f1 f2 f3 f4 f5 f6 f7 f8 f9 f10 f11 f12 f13) (x : ByteArray) : IsS53 w0 (W.setCell ⟨g, 1, none⟩ (.string x)) g f0 x f2 f3 f4 f5 f6 f7 f8 f9 f10 f11 f12 f13 := by
  obtain ⟨A12, c12, hb, hg, hr12⟩ := h
  exact ⟨A12, c12, by simpa using blk_set hb 1 (.string x), hg, hr12⟩
theorem cellS53_2 {W : World} {g : Nat} {A12 : Option Addr} {c12 : Nat} {f0 : ByteArray} {f1 : ByteArray} {f2 : ByteArray} {f3 : ByteArray} {f4 : ByteArray} {f5 : Int} {f6 : Int} {f7 : Int} {f8 : Int} {f9 : Int} {f10 : Bool} {f11 : ByteArray} {f12 : List ByteArray} {f13 : Int} (h : W.heap[g]? = some (.cells #[.string f0, .string f1, .string f2, .string f3, .string f4, .int .i64 f5, .int .i64 f6, .int .i64 f7, .int .i64 f8, .int .i64 f9, .bool f10, .string f11, .slice A12 f12.length c12, .int .i64 f13] 53 (0, 0))) : W.cell? ⟨g, 2, none⟩ = some (.string f2) := (blk_cell h 2).trans rfl
theorem IsS53.set_2 {w0 W : World} {g : Nat} {f0 : ByteArray} {f1 : ByteArray} {f2 : ByteArray} {f3 : ByteArray} {f4 : ByteArray} {f5 : Int} {f6 : Int} {f7 : Int} {f8 : Int} {f9 : Int} {f10 : Bool} {f11 : ByteArray} {f12 : List ByteArray} {f13 : Int} (h : IsS53 w0 W g f0 f1 f2 f3 f4 f5 f6 f7 f8 f9 f10 f11 f12 f13) (x : ByteArray) : IsS53 w0 (W.setCell ⟨g, 2, none⟩ (.string x)) g f0 f1 x f3 f4 f5 f6 f7 f8 f9 f10 f11 f12 f13 := by
  obtain ⟨A12, c12, hb, hg, hr12⟩ := h
  exact ⟨A12, c12, by simpa using blk_set hb 2 (.string x), hg, hr12⟩
theorem cellS53_3 {W : World} {g : Nat} {A12 : Option Addr} {c12 : Nat} {f0 : ByteArray} {f1 : ByteArray} {f2 : ByteArray} {f3 : ByteArray} {f4 : ByteArray} {f5 : Int} {f6 : Int} {f7 : Int} {f8 : Int} {f9 : Int} {f10 : Bool} {f11 : ByteArray} {f12 : List ByteArray} {f13 : Int} (h : W.heap[g]? = some (.cells #[.string f0, .string f1, .string f2, .string f3, .string f4, .int .i64 f5, .int .i64 f6, .int .i64 f7, .int .i64 f8, .int .i64 f9, .bool f10, .string f11, .slice A12 f12.length c12, .int .i64 f13] 53 (0, 0))) : W.cell? ⟨g, 3, none⟩ = some (.string f3) := (blk_cell h 3).trans rfl
theorem IsS53.set_3 {w0 W : World} {g : Nat} {f0 : ByteArray} {f1 : ByteArray} {f2 : ByteArray} {f3 : ByteArray} {f4 : ByteArray} {f5 : Int} {f6 : Int} {f7 : Int} {f8 : Int} {f9 : Int} {f10 : Bool} {f11 : ByteArray} {f12 : List ByteArray} {f13 : Int} (h : IsS53 w0 W g f0 f1 f2 f3 f4 f5 f6 f7 f8 f9 f10 f11 f12 f13) (x : ByteArray) : IsS53 w0 (W.setCell ⟨g, 3, none⟩ (.string x)) g f0 f1 f2 x f4 f5 f6 f7 f8 f9 f10 f11 f12 f13 := by
  obtain ⟨A12, c12, hb, hg, hr12⟩ := h
  exact ⟨A12, c12, by simpa using blk_set hb 3 (.string x), hg, hr12⟩
theorem cellS53_4 {W : World} {g : Nat} {A12 : Option Addr} {c12 : Nat} {f0 : ByteArray} {f1 : ByteArray} {f2 : ByteArray} {f3 : ByteArray} {f4 : ByteArray} {f5 : Int} {f6 : Int} {f7 : Int} {f8 : Int} {f9 : Int} {f10 : Bool} {f11 : ByteArray} {f12 : List ByteArray} {f13 : Int} (h : W.heap[g]? = some (.cells #[.string f0, .string f1, .string f2, .string f3, .string f4, .int .i64 f5, .int .i64 f6, .int .i64 f7, .int .i64 f8, .int .i64 f9, .bool f10, .string f11, .slice A12 f12.length c12, .int .i64 f13] 53 (0, 0))) : W.cell? ⟨g, 4, none⟩ = some (.string f4) := (blk_cell h 4).trans rfl
theorem IsS53.set_4 {w0 W : World} {g : Nat} {f0 : ByteArray} {f1 : ByteArray} {f2 : ByteArray} {f3 : ByteArray} {f4 : ByteArray} {f5 : Int} {f6 : Int} {f7 : Int} {f8 : Int} {f9 : Int} {f10 : Bool} {f11 : ByteArray} {f12 : List ByteArray} {f13 : Int} (h : IsS53 w0 W g f0 f1 f2 f3 f4 f5 f6 f7 f8 f9 f10 f11 f12 f13) (x : ByteArray) : IsS53 w0 (W.setCell ⟨g, 4, none⟩ (.string x)) g f0 f1 f2 f3 x f5 f6 f7 f8 f9 f10 f11 f12 f13 := by
  obtain ⟨A12, c12, hb, hg, hr12⟩ := h
  exact ⟨A12, c12, by simpa using blk_set hb 4 (.string x), hg, hr12⟩
theorem cellS53_5 {W : World} {g : Nat} {A12 : Option Addr} {c12 : Nat} {f0 : ByteArray} {f1 : ByteArray} {f2 : ByteArray} {f3 : ByteArray} {f4 : ByteArray} {f5 : Int} {f6 : Int} {f7 : Int} {f8 : Int} {f9 : Int} {f10 : Bool} {f11 : ByteArray} {f12 : List ByteArray} {f13 : Int} (h : W.heap[g]? = some (.cells #[.string f0, .string f1, .string f2, .string f3, .string f4, .int .i64 f5, .int .i64 f6, .int .i64 f7, .int .i64 f8, .int .i64 f9, .bool f10, .string f11, .slice A12 f12.length c12, .int .i64 f13] 53 (0, 0))) : W.cell? ⟨g, 5, none⟩ = some (.int .i64 f5) := (blk_cell h 5).trans rfl
theorem IsS53.set_5 {w0 W : World} {g : Nat} {f0 : ByteArray} {f1 : ByteArray} {f2 : ByteArray} {f3 : ByteArray} {f4 : ByteArray} {f5 : Int} {f6 : Int} {f7 : Int} {f8 : Int} {f9 : Int} {f10 : Bool} {f11 : ByteArray} {f12 : List ByteArray} {f13 : Int} (h : IsS53 w0 W g f0 f1 f2 f3 f4 f5 f6 f7 f8 f9 f10 f11 f12 f13) (x : Int) : IsS53 w0 (W.setCell ⟨g, 5, none⟩ (.int .i64 x)) g f0 f1 f2 f3 f4 x f6 f7 f8 f9 f10 f11 f12 f13 := by
  obtain ⟨A12, c12, hb, hg, hr12⟩ := h
  exact ⟨A12, c12, by simpa using blk_set hb 5 (.int .i64 x), hg, hr12⟩
theorem cellS53_6 {W : World} {g : Nat} {A12 : Option Addr} {c12 : Nat} {f0 : ByteArray} {f1 : ByteArray} {f2 : ByteArray} {f3 : ByteArray} {f4 : ByteArray} {f5 : Int} {f6 : Int} {f7 : Int} {f8 : Int} {f9 : Int} {f10 : Bool} {f11 : ByteArray} {f12 : List ByteArray} {f13 : Int} (h : W.heap[g]? = some (.cells #[.string f0, .string f1, .string f2, .string f3, .string f4, .int .i64 f5, .int .i64 f6, .int .i64 f7, .int .i64 f8, .int .i64 f9, .bool f10, .string f11, .slice A12 f12.length c12, .int .i64 f13] 53 (0, 0))) : W.cell? ⟨g, 6, none⟩ = some (.int .i64 f6) := (blk_cell h 6).trans rfl
theorem IsS53.set_6 {w0 W : World} {g : Nat} {f0 : ByteArray} {f1 : ByteArray} {f2 : ByteArray} {f3 : ByteArray} {f4 : ByteArray} {f5 : Int} {f6 : Int} {f7 : Int} {f8 : Int} {f9 : Int} {f10 : Bool} {f11 : ByteArray} {f12 : List ByteArray} {f13 : Int} (h : IsS53 w0 W g f0 f1 f2 f3 f4 f5 f6 f7 f8 f9 f10 f11 f12 f13) (x : Int) : IsS53 w0 (W.setCell ⟨g, 6, none⟩ (.int .i64 x)) g f0 f1 f2 f3 f4 f5 x f7 f8 f9 f10 f11 f12 f13 := by
  obtain ⟨A12, c12, hb, hg, hr12⟩ := h
  exact ⟨A12, c12, by simpa using blk_set hb 6 (.int .i64 x), hg, hr12⟩
theorem cellS53_7 {W : World} {g : Nat} {A12 : Option Addr} {c12 : Nat} {f0 : ByteArray} {f1 : ByteArray} {f2 : ByteArray} {f3 : ByteArray} {f4 : ByteArray} {f5 : Int} {f6 : Int} {f7 : Int} {f8 : Int} {f9 : Int} {f10 : Bool} {f11 : ByteArray} {f12 : List ByteArray} {f13 : Int} (h : W.heap[g]? = some (.cells #[.string f0, .string f1, .string f2, .string f3, .string f4, .int .i64 f5, .int .i64 f6, .int .i64 f7, .int .i64 f8, .int .i64 f9, .bool f10, .string f11, .slice A12 f12.length c12, .int .i64 f13] 53 (0, 0))) : W.cell? ⟨g, 7, none⟩ = some (.int .i64 f7) := (blk_cell h 7).trans rfl
theorem IsS53.set_7 {w0 W : World} {g : Nat} {f0 : ByteArray} {f1 : ByteArray} {f2 : ByteArray} {f3 : ByteArray} {f4 : ByteArray} {f5 : Int} {f6 : Int} {f7 : Int} {f8 : Int} {f9 : Int} {f10 : Bool} {f11 : ByteArray} {f12 : List ByteArray} {f13 : Int} (h : IsS53 w0 W g f0 f1 f2 f3 f4 f5 f6 f7 f8 f9 f10 f11 f12 f13) (x : Int) : IsS53 w0 (W.setCell ⟨g, 7, none⟩ (.int .i64 x)) g f0 f1 f2 f3 f4 f5 f6 x f8 f9 f10 f11 f12 f13 := by
  obtain ⟨A12, c12, hb, hg, hr12⟩ := h
  exact ⟨A12, c12, by simpa using blk_set hb 7 (.int .i64 x), hg, hr12⟩
theorem cellS53_8 {W : World} {g : Nat} {A12 : Option Addr} {c12 : Nat} {f0 : ByteArray} {f1 : ByteArray} {f2 : ByteArray} {f3 : ByteArray} {f4 : ByteArray} {f5 : Int} {f6 : Int} {f7 : Int} {f8 : Int} {f9 : Int} {f10 : Bool} {f11 : ByteArray} {f12 : List ByteArray} {f13 : Int} (h : W.heap[g]? = some (.cells #[.string f0, .string f1, .string f2, .string f3, .string f4, .int .i64 f5, .int .i64 f6, .int .i64 f7, .int .i64 f8, .int .i64 f9, .bool f10, .string f11, .slice A12 f12.length c12, .int .i64 f13] 53 (0, 0))) : W.cell? ⟨g, 8, none⟩ = some (.int .i64 f8) := (blk_cell h 8).trans rfl
theorem IsS53.set_8 {w0 W : World} {g : Nat} {f0 : ByteArray} {f1 : ByteArray} {f2 : ByteArray} {f3 : ByteArray} {f4 : ByteArray} {f5 : Int} {f6 : Int} {f7 : Int} {f8 : Int} {f9 : Int} {f10 : Bool} {f11 : ByteArray} {f12 : List ByteArray} {f13 : Int} (h : IsS53 w0 W g f0 f1 f2 f3 f4 f5 f6 f7 f8 f9 f10 f11 f12 f13) (x : Int) : IsS53 w0 (W.setCell ⟨g, 8, none⟩ (.int .i64 x)) g f0 f1 f2 f3 f4 f5 f6 f7 x f9 f10 f11 f12 f13 := by
  obtain ⟨A12, c12, hb, hg, hr12⟩ := h
  exact ⟨A12, c12, by simpa using blk_set hb 8 (.int .i64 x), hg, hr12⟩
theorem cellS53_9 {W : World} {g : Nat} {A12 : Option Addr} {c12 : Nat} {f0 : ByteArray} {f1 : ByteArray} {f2 : ByteArray} {f3 : ByteArray} {f4 : ByteArray} {f5 : Int} {f6 : Int} {f7 : Int} {f8 : Int} {f9 : Int} {f10 : Bool} {f11 : ByteArray} {f12 : List ByteArray} {f13 : Int} (h : W.heap[g]? = some (.cells #[.string f0, .string f1, .string f2, .string f3, .string f4, .int .i64 f5, .int .i64 f6, .int .i64 f7, .int .i64 f8, .int .i64 f9, .bool f10, .string f11, .slice A12 f12.length c12, .int .i64 f13] 53 (0, 0))) : W.cell? ⟨g, 9, none⟩ = some (.int .i64 f9) := (blk_cell h 9).trans rfl
theorem IsS53.set_9 {w0 W : World} {g : Nat} {f0 : ByteArray} {f1 : ByteArray} {f2 : ByteArray} {f3 : ByteArray} {f4 : ByteArray} {f5 : Int} {f6 : Int} {f7 : Int} {f8 : Int} {f9 : Int} {f10 : Bool} {f11 : ByteArray} {f12 : List ByteArray} {f13 : Int} (h : IsS53 w0 W g f0 f1 f2 f3 f4 f5 f6 f7 f8 f9 f10 f11 f12 f13) (x : Int) : IsS53 w0 (W.setCell ⟨g, 9, none⟩ (.int .i64 x)) g f0 f1 f2 f3 f4 f5 f6 f7 f8 x f10 f11 f12 f13 := by
  obtain ⟨A12, c12, hb, hg, hr12⟩ := h
  exact ⟨A12, c12, by simpa using blk_set hb 9 (.int .i64 x), hg, hr12⟩
theorem cellS53_10 {W : World} {g : Nat} {A12 : Option Addr} {c12 : Nat} {f0 : ByteArray} {f1 : ByteArray} {f2 : ByteArray} {f3 : ByteArray} {f4 : ByteArray} {f5 : Int} {f6 : Int} {f7 : Int} {f8 : Int} {f9 : Int} {f10 : Bool} {f11 : ByteArray} {f12 : List ByteArray} {f13 : Int} (h : W.heap[g]? = some (.cells #[.string f0, .string f1, .string f2, .string f3, .string f4, .int .i64 f5, .int .i64 f6, .int .i64 f7, .int .i64 f8, .int .i64 f9, .bool f10, .string f11, .slice A12 f12.length c12, .int .i64 f13] 53 (0, 0))) : W.cell? ⟨g, 10, none⟩ = some (.bool f10) := (blk_cell h 10).trans rfl
theorem IsS53.set_10 {w0 W : World} {g : Nat} {f0 : ByteArray} {f1 : ByteArray} {f2 : ByteArray} {f3 : ByteArray} {f4 : ByteArray} {f5 : Int} {f6 : Int} {f7 : Int} {f8 : Int} {f9 : Int} {f10 : Bool} {f11 : ByteArray} {f12 : List ByteArray} {f13 : Int} (h : IsS53 w0 W g f0 f1 f2 f3 f4 f5 f6 f7 f8 f9 f10 f11 f12 f13) (x : Bool) : IsS53 w0 (W.setCell ⟨g, 10, none⟩ (.bool x)) g f0 f1 f2 f3 f4 f5 f6 f7 f8 f9 x f11 f12 f13 := by
  obtain ⟨A12, c12, hb, hg, hr12⟩ := h
  exact ⟨A12, c12, by simpa using blk_set hb 10 (.bool x), hg, hr12⟩
theorem cellS53_11 {W : World} {g : Nat} {A12 : Option Addr} {c12 : Nat} {f0 : ByteArray} {f1 : ByteArray} {f2 : ByteArray} {f3 : ByteArray} {f4 : ByteArray} {f5 : Int} {f6 : Int} {f7 : Int} {f8 : Int} {f9 : Int} {f10 : Bool} {f11 : ByteArray} {f12 : List ByteArray} {f13 : Int} (h : W.heap[g]? = some (.cells #[.string f0, .string f1, .string f2, .string f3, .string f4, .int .i64 f5, .int .i64 f6, .int .i64 f7, .int .i64 f8, .int .i64 f9, .bool f10, .string f11, .slice A12 f12.length c12, .int .i64 f13] 53 (0, 0))) : W.cell? ⟨g, 11, none⟩ = some (.string f11) := (blk_cell h 11).trans rfl
theorem IsS53.set_11 {w0 W : World} {g : Nat} {f0 : ByteArray} {f1 : ByteArray} {f2 : ByteArray} {f3 : ByteArray} {f4 : ByteArray} {f5 : Int} {f6 : Int} {f7 : Int} {f8 : Int} {f9 : Int} {f10 : Bool} {f11 : ByteArray} {f12 : List ByteArray} {f13 : Int} (h : IsS53 w0 W g f0 f1 f2 f3 f4 f5 f6 f7 f8 f9 f10 f11 f12 f13) (x : ByteArray) : IsS53 w0 (W.setCell ⟨g, 11, none⟩ (.string x)) g f0 f1 f2 f3 f4 f5 f6 f7 f8 f9 f10 x f12 f13 := by
  obtain ⟨A12, c12, hb, hg, hr12⟩ := h
  exact ⟨A12, c12, by simpa using blk_set hb 11 (.string x), hg, hr12⟩
theorem cellS53_12 {W : World} {g : Nat} {A12 : Option Addr} {c12 : Nat} {f0 : ByteArray} {f1 : ByteArray} {f2 : ByteArray} {f3 : ByteArray} {f4 : ByteArray} {f5 : Int} {f6 : Int} {f7 : Int} {f8 : Int} {f9 : Int} {f10 : Bool} {f11 : ByteArray} {f12 : List ByteArray} {f13 : Int} (h : W.heap[g]? = some (.cells #[.string f0, .string f1, .string f2, .string f3, .string f4, .int .i64 f5, .int .i64 f6, .int .i64 f7, .int .i64 f8, .int .i64 f9, .bool f10, .string f11, .slice A12 f12.length c12, .int .i64 f13] 53 (0, 0))) : W.cell? ⟨g, 12, none⟩ = some (.slice A12 f12.length c12) := (blk_cell h 12).trans rfl
theorem cellS53_13 {W : World} {g : Nat} {A12 : Option Addr} {c12 : Nat} {f0 : ByteArray} {f1 : ByteArray} {f2 : ByteArray} {f3 : ByteArray} {f4 : ByteArray} {f5 : Int} {f6 : Int} {f7 : Int} {f8 : Int} {f9 : Int} {f10 : Bool} {f11 : ByteArray} {f12 : List ByteArray} {f13 : Int} (h : W.heap[g]? = some (.cells #[.string f0, .string f1, .string f2, .string f3, .string f4, .int .i64 f5, .int .i64 f6, .int .i64 f7, .int .i64 f8, .int .i64 f9, .bool f10, .string f11, .slice A12 f12.length c12, .int .i64 f13] 53 (0, 0))) : W.cell? ⟨g, 13, none⟩ = some (.int .i64 f13) := (blk_cell h 13).trans rfl
theorem IsS53.set_13 {w0 W : World} {g : Nat} {f0 : ByteArray} {f1 : ByteArray} {f2 : ByteArray} {f3 : ByteArray} {f4 : ByteArray} {f5 : Int} {f6 : Int} {f7 : Int} {f8 : Int} {f9 : Int} {f10 : Bool} {f11 : ByteArray} {f12 : List ByteArray} {f13 : Int} (h : IsS53 w0 W g f0 f1 f2 f3 f4 f5 f6 f7 f8 f9 f10 f11 f12 f13) (x : Int) : IsS53 w0 (W.setCell ⟨g, 13, none⟩ (.int .i64 x)) g f0 f1 f2 f3 f4 f5 f6 f7 f8 f9 f10 f11 f12 x := by
  obtain ⟨A12, c12, hb, hg, hr12⟩ := h
  exact ⟨A12, c12, by simpa using blk_set hb 13 (.int .i64 x), hg, hr12⟩
theorem IsS53.new (w0 W : World) (A12 : Option Addr) (c12 : Nat) (f0 : ByteArray) (f1 : ByteArray) (f2 : ByteArray) (f3 : ByteArray) (f4 : ByteArray) (f5 : Int) (f6 : Int) (f7 : Int) (f8 : Int) (f9 : Int) (f10 : Bool) (f11 : ByteArray) (f12 : List ByteArray) (f13 : Int) (hB : Below w0.heap.size w0 W) (hr12 : Kd.C Kd.string w0 A12 f12.length f12) : IsS53 w0 (W.alloc (.cells #[.string f0, .string f1, .string f2, .string f3, .string f4, .int .i64 f5, .int .i64 f6, .int .i64 f7, .int .i64 f8, .int .i64 f9, .bool f10, .string f11, .slice A12 f12.length c12, .int .i64 f13] 53)) W.heap.size f0 f1 f2 f3 f4 f5 f6 f7 f8 f9 f10 f11 f12 f13 := ⟨A12, c12, by simpa using heap_alloc_new W _, hB.size, hr12⟩

/-! ### supercargoref38_New: function 42 -/
def supercargoref38_New.f (a0_0 : ByteArray) (a0_1 : ByteArray) (a0_2 : ByteArray) (a0_3 : ByteArray) (a0_4 : ByteArray) (a0_5 : Int) (a0_6 : Int) (a0_7 : Int) (a0_8 : Int) : Option (ByteArray × ByteArray × ByteArray × ByteArray × ByteArray × Int × Int × Int × Int × Int × Bool × ByteArray × List ByteArray × Int) := some (a0_0, a0_1, a0_2, a0_3, a0_4, a0_5, a0_6, a0_7, a0_8, 0, false, a0_3, ([] : List ByteArray), a0_8)
set_option maxHeartbeats 8000000 in
set_option maxRecDepth 100000 in
theorem supercargoref38_New.calls (a0_0 : ByteArray) (a0_1 : ByteArray) (a0_2 : ByteArray) (a0_3 : ByteArray) (a0_4 : ByteArray) (a0_5 : Int) (a0_6 : Int) (a0_7 : Int) (a0_8 : Int) (r1 : ByteArray) (r2 : ByteArray) (r3 : ByteArray) (r4 : ByteArray) (r5 : ByteArray) (r6 : Int) (r7 : Int) (r8 : Int) (r9 : Int) (r10 : Int) (r11 : Bool) (r12 : ByteArray) (r13 : List ByteArray) (r14 : Int) (w0 w : World) (hB : Below w0.heap.size w0 w) (h : supercargoref38_New.f a0_0 a0_1 a0_2 a0_3 a0_4 a0_5 a0_6 a0_7 a0_8 = some (r1, r2, r3, r4, r5, r6, r7, r8, r9, r10, r11, r12, r13, r14)) :
    Calls Try.prog 42 #[.agg #[.string a0_0, .string a0_1, .string a0_2, .string a0_3, .string a0_4, .int .i64 a0_5, .int .i64 a0_6, .int .i64 a0_7, .int .i64 a0_8]] w fun e w' => ∃ g_ : Nat, e = .returned (.pointer (some ⟨g_, 0, none⟩)) ∧ IsS53 w0 w' g_ r1 r2 r3 r4 r5 r6 r7 r8 r9 r10 r11 r12 r13 r14 ∧ Below w0.heap.size w0 w' ∧ Below w.heap.size w w' := by
  have hu25 := Try.underlying25
  have hu53 := Try.underlying53
  have HBW := Aside0.mk (Below.refl w.heap.size w)
  have HW0 := Aside0.mk hB.size
  have HB := Aside0.mk hB
  clear hB
  have H : (some (a0_0, a0_1, a0_2, a0_3, a0_4, a0_5, a0_6, a0_7, a0_8, 0, false, a0_3, ([] : List ByteArray), a0_8)) = some (r1, r2, r3, r4, r5, r6, r7, r8, r9, r10, r11, r12, r13, r14) := h
  clear h
  simp only [Option.some.injEq, Prod.mk.injEq] at H
  obtain ⟨rfl, rfl, rfl, rfl, rfl, rfl, rfl, rfl, rfl, rfl, rfl, rfl, rfl, rfl⟩ := H
  go_enter Try.func42, Try.ntmps42
  go_wp2_with (first | ((with_reducible refine gate_dst (N := 1) rfl ?_); refine box_event ?hg (N := 1) ?hd (cs := #[.string a0_0, .string a0_1, .string a0_2, .string a0_3, .string a0_4, .int .i64 a0_5, .int .i64 a0_6, .int .i64 a0_7, .int .i64 a0_8]) (t := 25) ?hr ?_; (case hd => rfl); (case hg => rfl); (case hr => first | (go_simp; done) | (go_simp; rfl)); intro gb297 hg w2 hbox hb; have n0_ := Aside0.mk (below_step HBW.out hb); have n1_ := Aside0.mk (below_step (by repeat (first | (with_reducible first | exact HB.out | apply below_alloc | apply pw_below_drewN | apply below_drew1) | exact HB.out)) hb); have n2_ := Aside0.mk (hbox); have n3_ := Aside0.mk ((by rw [hg]; exact (below_size (by repeat (first | (with_reducible first | exact HBW.out | apply below_alloc | apply pw_below_drewN | apply below_drew1) | exact HBW.out))) : w.heap.size ≤ gb297)); have n4_ := Aside0.mk ((Nat.le_trans HW0.out (by rw [hg]; exact (below_size (by repeat (first | (with_reducible first | exact HBW.out | apply below_alloc | apply pw_below_drewN | apply below_drew1) | exact HBW.out))) : w.heap.size ≤ gb297) : w0.heap.size ≤ gb297)); clear HBW; clear HB; have HBW := n0_; have HB := n1_; have BK297 := n2_; have GW297 := n3_; have GE297 := n4_; clear n0_ n1_ n2_ n3_ n4_; clear hb hbox hg; have hcz3_0 : w2.cell? ⟨gb297, 0, none⟩ = some (.string a0_0) := (blk_cell BK297.out 0).trans rfl; have hcz3_1 : w2.cell? ⟨gb297, 1, none⟩ = some (.string a0_1) := (blk_cell BK297.out 1).trans rfl; have hcz3_2 : w2.cell? ⟨gb297, 2, none⟩ = some (.string a0_2) := (blk_cell BK297.out 2).trans rfl; have hcz3_3 : w2.cell? ⟨gb297, 3, none⟩ = some (.string a0_3) := (blk_cell BK297.out 3).trans rfl; have hcz3_4 : w2.cell? ⟨gb297, 4, none⟩ = some (.string a0_4) := (blk_cell BK297.out 4).trans rfl; have hcz3_5 : w2.cell? ⟨gb297, 5, none⟩ = some (.int .i64 a0_5) := (blk_cell BK297.out 5).trans rfl; have hcz3_6 : w2.cell? ⟨gb297, 6, none⟩ = some (.int .i64 a0_6) := (blk_cell BK297.out 6).trans rfl; have hcz3_7 : w2.cell? ⟨gb297, 7, none⟩ = some (.int .i64 a0_7) := (blk_cell BK297.out 7).trans rfl; have hcz3_8 : w2.cell? ⟨gb297, 8, none⟩ = some (.int .i64 a0_8) := (blk_cell BK297.out 8).trans rfl; have hfz3_0 := blk_frozen BK297.out 0; have hfz3_1 := blk_frozen BK297.out 1; have hfz3_2 := blk_frozen BK297.out 2; have hfz3_3 := blk_frozen BK297.out 3; have hfz3_4 := blk_frozen BK297.out 4; have hfz3_5 := blk_frozen BK297.out 5; have hfz3_6 := blk_frozen BK297.out 6; have hfz3_7 := blk_frozen BK297.out 7; have hfz3_8 := blk_frozen BK297.out 8) | ((with_reducible refine gate_dst (N := 9) rfl ?_); refine box_event ?hg (N := 9) ?hd (cs := #[.string a0_0, .string a0_1, .string a0_2, .string a0_3, .string a0_4, .int .i64 a0_5, .int .i64 a0_6, .int .i64 a0_7, .int .i64 a0_8, .int .i64 0, .bool false, .string a0_3, .slice none 0 0, .int .i64 a0_8]) (t := 53) ?hr ?_; (case hd => rfl); (case hg => rfl); (case hr => first | (go_simp; done) | (go_simp; rfl)); intro gb298 hg w4 hbox hb; have n0_ := Aside0.mk (blk_below (g := gb297) (o := .cells #[.string a0_0, .string a0_1, .string a0_2, .string a0_3, .string a0_4, .int .i64 a0_5, .int .i64 a0_6, .int .i64 a0_7, .int .i64 a0_8] 25 (0, 0)) (by (with_reducible repeat (first | refine blk_drewN ?_ _ | refine blk_drew ?_ | refine blk_alloc ?_ _)); exact BK297.out) hb); have n1_ := Aside0.mk (below_step HBW.out hb); have n2_ := Aside0.mk (below_step (by repeat (first | (with_reducible first | exact HB.out | apply below_alloc | apply pw_below_drewN | apply below_drew1 | refine below_set ?_ GE297.out) | exact HB.out)) hb); have n3_ := Aside0.mk (hbox); have n4_ := Aside0.mk ((by rw [hg]; exact (below_size (by repeat (first | (with_reducible first | exact HBW.out | apply below_alloc | apply pw_below_drewN | apply below_drew1 | refine below_set ?_ GW297.out) | exact HBW.out))) : w.heap.size ≤ gb298)); have n5_ := Aside0.mk ((Nat.le_trans HW0.out (by rw [hg]; exact (below_size (by repeat (first | (with_reducible first | exact HBW.out | apply below_alloc | apply pw_below_drewN | apply below_drew1 | refine below_set ?_ GW297.out) | exact HBW.out))) : w.heap.size ≤ gb298) : w0.heap.size ≤ gb298)); have n6_ := Aside0.mk ((by rw [hg]; exact Nat.ne_of_lt (blk_lt (g := gb297) (o := .cells #[.string a0_0, .string a0_1, .string a0_2, .string a0_3, .string a0_4, .int .i64 a0_5, .int .i64 a0_6, .int .i64 a0_7, .int .i64 a0_8] 25 (0, 0)) (by (with_reducible repeat (first | refine blk_drewN ?_ _ | refine blk_drew ?_ | refine blk_alloc ?_ _)); exact BK297.out)) : gb297 ≠ gb298)); have n7_ := Aside0.mk ((by rw [hg]; exact Nat.ne_of_gt (blk_lt (g := gb297) (o := .cells #[.string a0_0, .string a0_1, .string a0_2, .string a0_3, .string a0_4, .int .i64 a0_5, .int .i64 a0_6, .int .i64 a0_7, .int .i64 a0_8] 25 (0, 0)) (by (with_reducible repeat (first | refine blk_drewN ?_ _ | refine blk_drew ?_ | refine blk_alloc ?_ _)); exact BK297.out)) : gb298 ≠ gb297)); clear BK297; clear HBW; clear HB; have BK297 := n0_; have HBW := n1_; have HB := n2_; have BK298 := n3_; have GW298 := n4_; have GE298 := n5_; have NB297_298 := n6_; have NB298_297 := n7_; clear n0_ n1_ n2_ n3_ n4_ n5_ n6_ n7_; clear hb hbox hg))
  go_ret
  exact ⟨_, rfl, (show IsS53 w0 _ gb298 a0_0 a0_1 a0_2 a0_3 a0_4 a0_5 a0_6 a0_7 a0_8 0 false a0_3 ([] : List ByteArray) a0_8 from ⟨none, 0, by (with_reducible repeat (first | refine blk_drewN ?_ _ | refine blk_drew ?_ | refine blk_alloc ?_ _)); exact BK298.out, GE298.out, (Kd.C_nil _ _)⟩), by repeat (first | (with_reducible first | exact HB.out | apply below_alloc | apply pw_below_drewN | apply below_drew1 | refine below_set ?_ GE297.out | refine below_set ?_ GE298.out) | exact HB.out), by repeat (first | (with_reducible first | exact HBW.out | apply below_alloc | apply pw_below_drewN | apply below_drew1 | refine below_set ?_ GW297.out | refine below_set ?_ GW298.out) | exact HBW.out)⟩

-- NOT PRINTED: function 23 (supercargolaw38_grown)

-- NOT PRINTED: function 24 (draft_Bill_Copy)

-- NOT PRINTED: function 26 (supercargolaw38_even)

-- NOT PRINTED: function 6 (supercargolaw38_DraftCopies)

/-! ### day_rises: function 94 -/
def day_rises.l0 : Nat → List Int → Int → List Int → Int → Int → Option (Bool)
  | 0, _, _, _, _, _ => none
  | k + 1, x0, x1, x7, x8, x9 => if x9 < x8 then (if 0 ≤ x9 then (if x9 < (x7.length : Int) then (if (rd x7 x9) < 0 then (some false) else (if (rd x7 x9) > x1 then (some false) else (if x9 > 0 then (if 0 ≤ (wrap64 (x9 - 1)) then (if (wrap64 (x9 - 1)) < (x0.length : Int) then (if (rd x0 (wrap64 (x9 - 1))) ≥ (rd x7 x9) then (some false) else (day_rises.l0 k x0 x1 x7 x8 (wrap64 (x9 + 1)))) else (none)) else (none)) else (day_rises.l0 k x0 x1 x7 x8 (wrap64 (x9 + 1)))))) else (none)) else (none)) else (some (decide ((x0.length : Int) ≤ 4096)))
def day_rises.f (k : Nat) (l0 : List Int) (a1 : Int) : Option (Bool) := day_rises.l0 k l0 a1 l0 (l0.length : Int) 0
theorem day_rises.mono_l : ∀ k, (∀ y0 y1 y2 y3 y4, LeO (day_rises.l0 k y0 y1 y2 y3 y4) (day_rises.l0 (k + 1) y0 y1 y2 y3 y4))
  | 0 => fun _ _ _ _ _ r h => by simp [day_rises.l0] at h
  | k + 1 => by
    have ih0 := day_rises.mono_l k
    · intro y0 y1 y2 y3 y4
      unfold day_rises.l0
      repeat' first
      | (with_reducible exact ih0 _ _ _ _ _)
      | (with_reducible exact LeO.refl _)
      | (with_reducible exact LeO.none _)
      | (with_reducible refine LeO.ite ?_ ?_)
      | (with_reducible refine LeO.bind ?_ (fun _ => ?_))
      | exact ih0 _ _ _ _ _
      | exact LeO.none _
      | refine LeO.ite ?_ ?_
      | refine LeO.bind ?_ (fun _ => ?_)
theorem day_rises.mono : ∀ a0 a1 k, LeO (day_rises.f k a0 a1) (day_rises.f (k + 1) a0 a1) := by
  intro a0 a1 k
  have ih0 := day_rises.mono_l k
  unfold day_rises.f
  repeat' first
      | (with_reducible exact ih0 _ _ _ _ _)
      | (with_reducible exact LeO.refl _)
      | (with_reducible exact LeO.none _)
      | (with_reducible refine LeO.ite ?_ ?_)
      | (with_reducible refine LeO.bind ?_ (fun _ => ?_))
      | exact ih0 _ _ _ _ _
      | exact LeO.none _
      | refine LeO.ite ?_ ?_
      | refine LeO.bind ?_ (fun _ => ?_)
set_option maxHeartbeats 8000000 in
set_option maxRecDepth 100000 in
theorem day_rises.calls (k : Nat) (A0 : Option Addr) (c0 : Nat) (l0 : List Int) (a1 : Int) (r : Bool) (w : World) (hr0 : Kd.C (Kd.int .i64) w A0 l0.length l0) (hc0 : l0.length ≤ c0) (h : day_rises.f k l0 a1 = some r) :
    Calls Try.prog 94 #[.slice A0 l0.length c0, .int .i64 a1] w fun e w' => e = .returned (.bool r) ∧ Drawn0 w w' := by
  have HR0 := Aside0.mk hr0
  have HC0 := Aside0.mk hc0
  clear hr0 hc0
  have H : (day_rises.l0 k l0 a1 l0 (l0.length : Int) 0) = some r := h
  clear h
  have H' := Aside0.mk H
  clear H
  go_enter Try.func94, Try.ntmps94
  go_wp2
  go_loopg [9] k (fun kq v9 w' => ∃ (x9_1 : Int), v9 = .int .i64 x9_1 ∧ Aside0 (day_rises.l0 kq l0 a1 l0 (l0.length : Int) x9_1 = some r) ∧ Aside0 (kq ≤ k) ∧ Drawn0 w w')
  case atStart => exact ⟨(0), (by first | rfl | (simp; done) | (simp [*]; done)), H', ⟨Nat.le_refl _⟩, by repeat (first | exact Drawn0.refl _ | apply Drawn0.step)⟩
  case round =>
    clear H'
    try clear p2
    obtain ⟨x9_1, rfl, HA, HK1, ⟨m1, rfl⟩⟩ := hrel
    cases gk with
    | zero => exact absurd HA.out (by simp [day_rises.l0])
    | succ k1 =>
      have H := HA.out
      clear HA
      simp only [day_rises.l0] at H
      by_cases c3 : x9_1 < (l0.length : Int)
      · rw [if_pos c3] at H
        have c3b0 : decide (x9_1 < (l0.length : Int)) = true := decide_eq_true c3
        clear c3
        by_cases c4 : 0 ≤ x9_1
        · rw [if_pos c4] at H
          have c4b0 : decide (0 ≤ x9_1) = true := decide_eq_true c4
          clear c4
          by_cases c5 : x9_1 < (l0.length : Int)
          · rw [if_pos c5] at H
            have c5b0 : decide (x9_1 < (l0.length : Int)) = true := decide_eq_true c5
            clear c5
            by_cases c6 : (rd l0 x9_1) < 0
            · rw [if_pos c6] at H
              have c6b0 : decide ((rd l0 x9_1) < 0) = true := decide_eq_true c6
              clear c6
              obtain rfl := Option.some.inj H
              have p300 : 0 ≤ (x9_1 : Int) := of_decide_eq_true (by first | (with_reducible assumption) | assumption)
              have q300 : x9_1 < (l0.length : Int) := of_decide_eq_true (by first | (with_reducible assumption) | assumption)
              obtain ⟨ad300, e300, hx300_0⟩ := Kd.at_int HR0.out x9_1 p300 q300
              cases e300
              replace p300 := eq_true p300
              replace q300 := eq_true q300
              go_wp2
              go_ret
              exact ⟨by first | rfl | (simp; done) | (simp [*]; done), by repeat (first | exact Drawn0.refl _ | apply Drawn0.step)⟩
            · rw [if_neg c6] at H
              have c6b0 : decide ((rd l0 x9_1) < 0) = false := decide_eq_false c6
              clear c6
              by_cases c7 : (rd l0 x9_1) > a1
              · rw [if_pos c7] at H
                have c7b0 : decide (a1 < (rd l0 x9_1)) = true := decide_eq_true c7
                clear c7
                obtain rfl := Option.some.inj H
                have p300 : 0 ≤ (x9_1 : Int) := of_decide_eq_true (by first | (with_reducible assumption) | assumption)
                have q300 : x9_1 < (l0.length : Int) := of_decide_eq_true (by first | (with_reducible assumption) | assumption)
                obtain ⟨ad300, e300, hx300_0⟩ := Kd.at_int HR0.out x9_1 p300 q300
                cases e300
                replace p300 := eq_true p300
                replace q300 := eq_true q300
                go_wp2
                go_ret
                exact ⟨by first | rfl | (simp; done) | (simp [*]; done), by repeat (first | exact Drawn0.refl _ | apply Drawn0.step)⟩
              · rw [if_neg c7] at H
                have c7b0 : decide (a1 < (rd l0 x9_1)) = false := decide_eq_false c7
                clear c7
                by_cases c8 : x9_1 > 0
                · rw [if_pos c8] at H
                  have c8b0 : decide (0 < x9_1) = true := decide_eq_true c8
                  clear c8
                  obtain ⟨ji9, hji9⟩ : ∃ j_ : Int, (wrap64 (x9_1 - 1)) = j_ := ⟨_, rfl⟩
                  replace H : (if 0 ≤ (ji9) then (if (ji9) < (l0.length : Int) then (if (rd l0 (ji9)) ≥ (rd l0 x9_1) then (some false) else (day_rises.l0 k1 l0 a1 l0 (l0.length : Int) (wrap64 (x9_1 + 1)))) else (none)) else (none)) = some r := by first | (rw [hji9] at H; exact H) | (simp only [hji9] at H ⊢; exact H)
                  have hji9w : (IntKind.i64.wrap (x9_1 - 1)) = ji9 := (i64_w _).trans hji9
                  by_cases c10 : 0 ≤ (ji9)
                  · rw [if_pos c10] at H
                    have c10b0 : decide (0 ≤ (ji9)) = true := decide_eq_true c10
                    clear c10
                    by_cases c11 : (ji9) < (l0.length : Int)
                    · rw [if_pos c11] at H
                      have c11b0 : decide ((ji9) < (l0.length : Int)) = true := decide_eq_true c11
                      clear c11
                      by_cases c12 : (rd l0 (ji9)) ≥ (rd l0 x9_1)
                      · rw [if_pos c12] at H
                        have c12b0 : decide ((rd l0 x9_1) ≤ (rd l0 (ji9))) = true := decide_eq_true c12
                        clear c12
                        obtain rfl := Option.some.inj H
                        have p300 : 0 ≤ (x9_1 : Int) := of_decide_eq_true (by first | (with_reducible assumption) | assumption)
                        have q300 : x9_1 < (l0.length : Int) := of_decide_eq_true (by first | (with_reducible assumption) | assumption)
                        obtain ⟨ad300, e300, hx300_0⟩ := Kd.at_int HR0.out x9_1 p300 q300
                        cases e300
                        replace p300 := eq_true p300
                        replace q300 := eq_true q300
                        have p301 : 0 ≤ ((ji9) : Int) := of_decide_eq_true (by first | (with_reducible assumption) | assumption)
                        have q301 : (ji9) < (l0.length : Int) := of_decide_eq_true (by first | (with_reducible assumption) | assumption)
                        obtain ⟨ad301, e301, hx301_0⟩ := Kd.at_int HR0.out (ji9) p301 q301
                        obtain rfl : ad300 = ad301 := (by injection e301)
                        replace p301 := eq_true p301
                        replace q301 := eq_true q301
                        go_wp2
                        go_ret
                        exact ⟨by first | rfl | (simp; done) | (simp only [← hji9] <;> (first | rfl | simp)) | (simp [*]; done), by repeat (first | exact Drawn0.refl _ | apply Drawn0.step)⟩
                      · rw [if_neg c12] at H
                        have c12b0 : decide ((rd l0 x9_1) ≤ (rd l0 (ji9))) = false := decide_eq_false c12
                        clear c12
                        have H' := Aside0.mk H
                        clear H
                        have p300 : 0 ≤ (x9_1 : Int) := of_decide_eq_true (by first | (with_reducible assumption) | assumption)
                        have q300 : x9_1 < (l0.length : Int) := of_decide_eq_true (by first | (with_reducible assumption) | assumption)
                        obtain ⟨ad300, e300, hx300_0⟩ := Kd.at_int HR0.out x9_1 p300 q300
                        cases e300
                        replace p300 := eq_true p300
                        replace q300 := eq_true q300
                        have p301 : 0 ≤ ((ji9) : Int) := of_decide_eq_true (by first | (with_reducible assumption) | assumption)
                        have q301 : (ji9) < (l0.length : Int) := of_decide_eq_true (by first | (with_reducible assumption) | assumption)
                        obtain ⟨ad301, e301, hx301_0⟩ := Kd.at_int HR0.out (ji9) p301 q301
                        obtain rfl : ad300 = ad301 := (by injection e301)
                        replace p301 := eq_true p301
                        replace q301 := eq_true q301
                        go_wp2
                        go_roundg k1
                        case measure => have := HK1.out; omega
                        case rel => exact ⟨(wrap64 (x9_1 + 1)), (by first | rfl | (simp; done) | (simp [*]; done)), H', ⟨by have := HK1.out; omega⟩, by repeat (first | exact Drawn0.refl _ | apply Drawn0.step)⟩
                    · rw [if_neg c11] at H
                      exact absurd H (by simp)
                  · rw [if_neg c10] at H
                    exact absurd H (by simp)
                · rw [if_neg c8] at H
                  have c8b0 : decide (0 < x9_1) = false := decide_eq_false c8
                  clear c8
                  have H' := Aside0.mk H
                  clear H
                  have p300 : 0 ≤ (x9_1 : Int) := of_decide_eq_true (by first | (with_reducible assumption) | assumption)
                  have q300 : x9_1 < (l0.length : Int) := of_decide_eq_true (by first | (with_reducible assumption) | assumption)
                  obtain ⟨ad300, e300, hx300_0⟩ := Kd.at_int HR0.out x9_1 p300 q300
                  cases e300
                  replace p300 := eq_true p300
                  replace q300 := eq_true q300
                  go_wp2
                  go_roundg k1
                  case measure => have := HK1.out; omega
                  case rel => exact ⟨(wrap64 (x9_1 + 1)), (by first | rfl | (simp; done) | (simp [*]; done)), H', ⟨by have := HK1.out; omega⟩, by repeat (first | exact Drawn0.refl _ | apply Drawn0.step)⟩
          · rw [if_neg c5] at H
            exact absurd H (by simp)
        · rw [if_neg c4] at H
          exact absurd H (by simp)
      · rw [if_neg c3] at H
        have c3b0 : decide (x9_1 < (l0.length : Int)) = false := decide_eq_false c3
        clear c3
        obtain rfl := Option.some.inj H
        go_wp2
        go_ret
        exact ⟨by first | rfl | (simp; done) | (simp [*]; done), by repeat (first | exact Drawn0.refl _ | apply Drawn0.step)⟩

end Go.Proofs.Ytcmjgkmnbenniaa.X
