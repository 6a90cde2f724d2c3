/- One of the texts of this claim: Xx13, RefP, RefG, Args. -/
import Derived.Test.YtfflbeenkfaemaaGreatDoorFPackRights7
namespace Go.Proofs.YtfflbeenkfaemaaGreatDoor.X
open Go.RowKit Go.Proofs.YtfflbeenkfaemaaGreatDoor.Ext Go.Proofs.YtfflbeenkfaemaaGreatDoorW.PrintWords Go.Proofs.YtfflbeenkfaemaaGreatDoorW.PrintLast Go.Proofs.YtfflbeenkfaemaaGreatDoorW.PrintMore
attribute [local go_sem] max2_int min2_int max_two min_two max_three min_three max_four min_four   -- for this text's walks alone
set_option linter.unusedVariables false
set_option linter.unusedSimpArgs false
attribute [local go_sem high] eqA55
def supercargoref11_Few.l0 : Nat → List (S55) → Int → Option (Bool)
 | 0, _, _ => none
 | k + 1, x0, x3 => if x3 < (x0.length : Int) then (if x3 > 40 then (some false) else (if 0 ≤ x3 then (if (((rd_T55 x0 x3).f0).size : Int) > 60 then (some false) else (if ((rd_T55 x0 x3).f1) > 1099511627776 then (some false) else (supercargoref11_Few.l0 k x0 (wrap64 (x3 + 1))))) else (none))) else (some true)
def supercargoref11_Few.f (k : Nat) (l0 : List (S55)) : Option (Bool) := supercargoref11_Few.l0 k l0 0
theorem supercargoref11_Few.mono_l : ∀ k, (∀ y0 y1, LeO (supercargoref11_Few.l0 k y0 y1) (supercargoref11_Few.l0 (k + 1) y0 y1))
 | 0 => fun _ _ r h => by simp [supercargoref11_Few.l0] at h
 | k + 1 => by
  have ih0 := supercargoref11_Few.mono_l k
  ·intro y0 y1
   unfold supercargoref11_Few.l0
   repeat' first
   | (with_reducible exact ih0 _ _)
   | (with_reducible exact LeO.refl _)
   | (with_reducible exact LeO.none _)
   | (with_reducible refine LeO.ite ?_ ?_)
   | (with_reducible refine LeO.bind ?_ (fun _ => ?_))
   | exact ih0 _ _
   | exact LeO.none _
   | refine LeO.ite ?_ ?_
   | refine LeO.bind ?_ (fun _ => ?_)
theorem supercargoref11_Few.mono : ∀ a0 k, LeO (supercargoref11_Few.f k a0) (supercargoref11_Few.f (k + 1) a0) := by
 intro a0 k
 have ih0 := supercargoref11_Few.mono_l k
 unfold supercargoref11_Few.f
 repeat' first
   | (with_reducible exact ih0 _ _)
   | (with_reducible exact LeO.refl _)
   | (with_reducible exact LeO.none _)
   | (with_reducible refine LeO.ite ?_ ?_)
   | (with_reducible refine LeO.bind ?_ (fun _ => ?_))
   | exact ih0 _ _
   | exact LeO.none _
   | refine LeO.ite ?_ ?_
   | refine LeO.bind ?_ (fun _ => ?_)
set_option maxHeartbeats 8000000 in
set_option maxRecDepth 100000 in
theorem supercargoref11_Few.calls (k : Nat) (A0 : Option Addr) (c0 : Nat) (l0 : List (S55)) (r : Bool) (w : World) (hr0 : Kd.C k55 w A0 l0.length l0) (hc0 : l0.length ≤ c0) (h : supercargoref11_Few.f k l0 = some r) :
  Calls Tryz.prog 61 #[.slice A0 l0.length c0] w fun e w' => e = .returned (.bool r) ∧ Drawn0 w w' := by
 have HR0 := Aside0.mk hr0
 have HC0 := Aside0.mk hc0
 clear hr0 hc0
 have H : (supercargoref11_Few.l0 k l0 0) = some r := h
 clear h
 have H' := Aside0.mk H
 clear H
 go_enter Tryz.func61, Tryz.ntmps61
 go_wp2
 go_loopg [3] k (fun kq v3 w' => ∃ (x3_1 : Int), v3 = .int .i64 x3_1 ∧ Aside0 (supercargoref11_Few.l0 kq l0 x3_1 = some r) ∧ Aside0 (kq ≤ k) ∧ Drawn0 w w')
 case atStart => exact ⟨(0), (by first | rfl | (simp; done) | (simp [*]; done)), H', ⟨Nat.le_refl _⟩, by repeat (first | exact Drawn0.refl _ | apply Drawn0.step)⟩
 case round =>
  clear H'
  obtain ⟨x3_1, rfl, HA, HK1, ⟨m1, rfl⟩⟩ := hrel
  cases gk with
  | zero => exact absurd HA.out (by simp [supercargoref11_Few.l0])
  | succ k1 =>
   have H := HA.out
   clear HA
   simp only [supercargoref11_Few.l0] at H
   by_cases c2 : x3_1 < (l0.length : Int)
   ·rw [if_pos c2] at H
    have c2b0 : decide (x3_1 < (l0.length : Int)) = true := decide_eq_true c2
    clear c2
    by_cases c3 : x3_1 > 40
    ·rw [if_pos c3] at H
     have c3b0 : decide (40 < x3_1) = true := decide_eq_true c3
     clear c3
     obtain rfl := Option.some.inj H
     go_wp2
     go_ret
     exact ⟨by first | rfl | (simp; done) | (simp [*]; done), by repeat (first | exact Drawn0.refl _ | apply Drawn0.step)⟩
    ·rw [if_neg c3] at H
     have c3b0 : decide (40 < x3_1) = false := decide_eq_false c3
     clear c3
     by_cases c4 : 0 ≤ x3_1
     ·rw [if_pos c4] at H
      have c4b0 : decide (0 ≤ x3_1) = true := decide_eq_true c4
      clear c4
      by_cases c5 : (((rd_T55 l0 x3_1).f0).size : Int) > 60
      ·rw [if_pos c5] at H
       have c5b0 : decide (60 < (((rd_T55 l0 x3_1).f0).size : Int)) = true := decide_eq_true c5
       have c5b1 : decide (60 < ((rd_T55 l0 x3_1).f0).size) = true := decide_eq_true (by omega)
       clear c5
       obtain rfl := Option.some.inj H
       have p289 : 0 ≤ (x3_1 : Int) := of_decide_eq_true (by first | (with_reducible assumption) | assumption)
       have q289 : x3_1 < (l0.length : Int) := of_decide_eq_true (by first | (with_reducible assumption) | assumption)
       obtain ⟨ad289, e289, hx289_0, hx289_1⟩ := at_T55 HR0.out x3_1 p289 q289
       cases e289
       replace p289 := eq_true p289
       replace q289 := eq_true q289
       go_wp2
       go_ret
       exact ⟨by first | rfl | (simp; done) | (simp [*]; done), by repeat (first | exact Drawn0.refl _ | apply Drawn0.step)⟩
      ·rw [if_neg c5] at H
       have c5b0 : decide (60 < (((rd_T55 l0 x3_1).f0).size : Int)) = false := decide_eq_false c5
       have c5b1 : decide (60 < ((rd_T55 l0 x3_1).f0).size) = false := decide_eq_false (by omega)
       clear c5
       by_cases c6 : ((rd_T55 l0 x3_1).f1) > 1099511627776
       ·rw [if_pos c6] at H
        have c6b0 : decide (1099511627776 < ((rd_T55 l0 x3_1).f1)) = true := decide_eq_true c6
        clear c6
        obtain rfl := Option.some.inj H
        have p289 : 0 ≤ (x3_1 : Int) := of_decide_eq_true (by first | (with_reducible assumption) | assumption)
        have q289 : x3_1 < (l0.length : Int) := of_decide_eq_true (by first | (with_reducible assumption) | assumption)
        obtain ⟨ad289, e289, hx289_0, hx289_1⟩ := at_T55 HR0.out x3_1 p289 q289
        cases e289
        replace p289 := eq_true p289
        replace q289 := eq_true q289
        have p290 : 0 ≤ (x3_1 : Int) := of_decide_eq_true (by first | (with_reducible assumption) | assumption)
        have q290 : x3_1 < (l0.length : Int) := of_decide_eq_true (by first | (with_reducible assumption) | assumption)
        obtain ⟨ad290, e290, hx290_0, hx290_1⟩ := at_T55 HR0.out x3_1 p290 q290
        obtain rfl : ad289 = ad290 := (by injection e290)
        replace p290 := eq_true p290
        replace q290 := eq_true q290
        go_wp2
        go_ret
        exact ⟨by first | rfl | (simp; done) | (simp [*]; done), by repeat (first | exact Drawn0.refl _ | apply Drawn0.step)⟩
       ·rw [if_neg c6] at H
        have c6b0 : decide (1099511627776 < ((rd_T55 l0 x3_1).f1)) = false := decide_eq_false c6
        clear c6
        have H' := Aside0.mk H
        clear H
        have p289 : 0 ≤ (x3_1 : Int) := of_decide_eq_true (by first | (with_reducible assumption) | assumption)
        have q289 : x3_1 < (l0.length : Int) := of_decide_eq_true (by first | (with_reducible assumption) | assumption)
        obtain ⟨ad289, e289, hx289_0, hx289_1⟩ := at_T55 HR0.out x3_1 p289 q289
        cases e289
        replace p289 := eq_true p289
        replace q289 := eq_true q289
        have p290 : 0 ≤ (x3_1 : Int) := of_decide_eq_true (by first | (with_reducible assumption) | assumption)
        have q290 : x3_1 < (l0.length : Int) := of_decide_eq_true (by first | (with_reducible assumption) | assumption)
        obtain ⟨ad290, e290, hx290_0, hx290_1⟩ := at_T55 HR0.out x3_1 p290 q290
        obtain rfl : ad289 = ad290 := (by injection e290)
        replace p290 := eq_true p290
        replace q290 := eq_true q290
        go_wp2
        go_roundg k1
        case measure => have := HK1.out; omega
        case rel => exact ⟨(wrap64 (x3_1 + 1)), (by first | rfl | (simp; done) | (simp [*]; done)), H', ⟨by have := HK1.out; omega⟩, by repeat (first | exact Drawn0.refl _ | apply Drawn0.step)⟩
     ·rw [if_neg c4] at H
      exact absurd H (by simp)
   ·rw [if_neg c2] at H
    have c2b0 : decide (x3_1 < (l0.length : Int)) = false := decide_eq_false c2
    clear c2
    obtain rfl := Option.some.inj H
    go_wp2
    go_ret
    exact ⟨by first | rfl | (simp; done) | (simp [*]; done), by repeat (first | exact Drawn0.refl _ | apply Drawn0.step)⟩
def supercargolaw12_few.f (k : Nat) (l0 : List (S30)) (l1 : List (S55)) : Option (Bool) := if (l0.length : Int) ≤ 12 then (if (l1.length : Int) ≤ 12 then ((supercargoref11_Few.f k l1).bind fun t291 => (some t291)) else (some false)) else (some false)
theorem supercargolaw12_few.mono : ∀ a0 a1 k, LeO (supercargolaw12_few.f k a0 a1) (supercargolaw12_few.f (k + 1) a0 a1) := by
 intro a0 a1 k
 unfold supercargolaw12_few.f
 repeat' first
   | (with_reducible exact supercargoref11_Few.mono _ _)
   | (with_reducible exact LeO.refl _)
   | (with_reducible exact LeO.none _)
   | (with_reducible refine LeO.ite ?_ ?_)
   | (with_reducible refine LeO.bind ?_ (fun _ => ?_))
   | exact supercargoref11_Few.mono _ _
   | exact LeO.none _
   | refine LeO.ite ?_ ?_
   | refine LeO.bind ?_ (fun _ => ?_)
set_option maxHeartbeats 8000000 in
set_option maxRecDepth 100000 in
theorem supercargolaw12_few.calls (k : Nat) (A0 : Option Addr) (c0 : Nat) (l0 : List (S30)) (A1 : Option Addr) (c1 : Nat) (l1 : List (S55)) (r : Bool) (w : World) (hr0 : Kd.C k30 w A0 l0.length l0) (hc0 : l0.length ≤ c0) (hr1 : Kd.C k55 w A1 l1.length l1) (hc1 : l1.length ≤ c1) (h : supercargolaw12_few.f k l0 l1 = some r) :
  Calls Tryz.prog 24 #[.slice A0 l0.length c0, .slice A1 l1.length c1] w fun e w' => e = .returned (.bool r) ∧ Drawn0 w w' := by
 have HR0 := Aside0.mk hr0
 have HC0 := Aside0.mk hc0
 clear hr0 hc0
 have HR1 := Aside0.mk hr1
 have HC1 := Aside0.mk hc1
 clear hr1 hc1
 have H : (if (l0.length : Int) ≤ 12 then (if (l1.length : Int) ≤ 12 then ((supercargoref11_Few.f k l1).bind fun t291 => (some t291)) else (some false)) else (some false)) = some r := h
 clear h
 by_cases c3 : (l0.length : Int) ≤ 12
 ·rw [if_pos c3] at H
  have c3b0 : decide ((l0.length : Int) ≤ 12) = true := decide_eq_true c3
  have c3b1 : decide (l0.length ≤ 12) = true := decide_eq_true (by omega)
  clear c3
  by_cases c4 : (l1.length : Int) ≤ 12
  ·rw [if_pos c4] at H
   have c4b0 : decide ((l1.length : Int) ≤ 12) = true := decide_eq_true c4
   have c4b1 : decide (l1.length ≤ 12) = true := decide_eq_true (by omega)
   clear c4
   replace H := Option.bind_eq_some_iff.mp H
   obtain ⟨t291, A50, H⟩ := H
   replace H : (some t291) = some r := H
   have A5 := Aside0.mk A50
   clear A50
   obtain rfl := Option.some.inj H
   go_enter Tryz.func24, Tryz.ntmps24
   go_wp2_with (first | (go_at_call 61; (with_reducible refine (supercargoref11_Few.calls k _ _ l1 t291 _ ?side1 ?side2 A5.out).mono ?_); (case side1 => repeat (first | exact HR1.out | (with_reducible refine Kd.C_alloc ?_ _) | (with_reducible refine Kd.C_drewN ?_ _) | (with_reducible refine Kd.C_drew ?_))); (case side2 => exact HC1.out); rintro e w' ⟨rfl, ⟨nd, rfl⟩⟩))
   go_ret
   exact ⟨by first | rfl | (simp; done) | (simp [*]; done), by repeat (first | exact Drawn0.refl _ | apply Drawn0.step)⟩
  ·rw [if_neg c4] at H
   have c4b0 : decide ((l1.length : Int) ≤ 12) = false := decide_eq_false c4
   have c4b1 : decide (l1.length ≤ 12) = false := decide_eq_false (by omega)
   clear c4
   obtain rfl := Option.some.inj H
   go_enter Tryz.func24, Tryz.ntmps24
   go_wp2
   go_ret
   exact ⟨by first | rfl | (simp; done) | (simp [*]; done), by repeat (first | exact Drawn0.refl _ | apply Drawn0.step)⟩
 ·rw [if_neg c3] at H
  have c3b0 : decide ((l0.length : Int) ≤ 12) = false := decide_eq_false c3
  have c3b1 : decide (l0.length ≤ 12) = false := decide_eq_false (by omega)
  clear c3
  obtain rfl := Option.some.inj H
  go_enter Tryz.func24, Tryz.ntmps24
  go_wp2
  go_ret
  exact ⟨by first | rfl | (simp; done) | (simp [*]; done), by repeat (first | exact Drawn0.refl _ | apply Drawn0.step)⟩
def supercargolaw12_boxes.l0 : Nat → List (S44) → Int → Option (Bool)
 | 0, _, _ => none
 | k + 1, x0, x3 => if x3 < (x0.length : Int) then (if 0 ≤ x3 then (if (((rd_T44 x0 x3).f2).length : Int) > 12 then (some false) else ((supercargoref11_Few.f k ((rd_T44 x0 x3).f2)).bind fun t294 => (if t294 = true then (if (((rd_T44 x0 x3).f0).size : Int) > 40 then (some false) else (supercargolaw12_boxes.l0 k x0 (wrap64 (x3 + 1)))) else (some false)))) else (none)) else (some (decide ((x0.length : Int) ≤ 20)))
def supercargolaw12_boxes.f (k : Nat) (l0 : List (S44)) : Option (Bool) := supercargolaw12_boxes.l0 k l0 0
theorem supercargolaw12_boxes.mono_l : ∀ k, (∀ y0 y1, LeO (supercargolaw12_boxes.l0 k y0 y1) (supercargolaw12_boxes.l0 (k + 1) y0 y1))
 | 0 => fun _ _ r h => by simp [supercargolaw12_boxes.l0] at h
 | k + 1 => by
  have ih0 := supercargolaw12_boxes.mono_l k
  ·intro y0 y1
   unfold supercargolaw12_boxes.l0
   repeat' first
   | (with_reducible exact ih0 _ _)
   | (with_reducible exact supercargoref11_Few.mono _ _)
   | (with_reducible exact LeO.refl _)
   | (with_reducible exact LeO.none _)
   | (with_reducible refine LeO.ite ?_ ?_)
   | (with_reducible refine LeO.bind ?_ (fun _ => ?_))
   | exact ih0 _ _
   | exact supercargoref11_Few.mono _ _
   | exact LeO.none _
   | refine LeO.ite ?_ ?_
   | refine LeO.bind ?_ (fun _ => ?_)
theorem supercargolaw12_boxes.mono : ∀ a0 k, LeO (supercargolaw12_boxes.f k a0) (supercargolaw12_boxes.f (k + 1) a0) := by
 intro a0 k
 have ih0 := supercargolaw12_boxes.mono_l k
 unfold supercargolaw12_boxes.f
 repeat' first
   | (with_reducible exact ih0 _ _)
   | (with_reducible exact supercargoref11_Few.mono _ _)
   | (with_reducible exact LeO.refl _)
   | (with_reducible exact LeO.none _)
   | (with_reducible refine LeO.ite ?_ ?_)
   | (with_reducible refine LeO.bind ?_ (fun _ => ?_))
   | exact ih0 _ _
   | exact supercargoref11_Few.mono _ _
   | exact LeO.none _
   | refine LeO.ite ?_ ?_
   | refine LeO.bind ?_ (fun _ => ?_)
set_option maxHeartbeats 8000000 in
set_option maxRecDepth 100000 in
theorem supercargolaw12_boxes.calls (k : Nat) (A0 : Option Addr) (c0 : Nat) (l0 : List (S44)) (r : Bool) (w : World) (hr0 : Kd.C k44 w A0 l0.length l0) (hc0 : l0.length ≤ c0) (h : supercargolaw12_boxes.f k l0 = some r) :
  Calls Tryz.prog 30 #[.slice A0 l0.length c0] w fun e w' => e = .returned (.bool r) ∧ Drawn0 w w' := by
 have HR0 := Aside0.mk hr0
 have HC0 := Aside0.mk hc0
 clear hr0 hc0
 have H : (supercargolaw12_boxes.l0 k l0 0) = some r := h
 clear h
 have H' := Aside0.mk H
 clear H
 go_enter Tryz.func30, Tryz.ntmps30
 go_wp2
 go_loopg [3] k (fun kq v3 w' => ∃ (x3_1 : Int), v3 = .int .i64 x3_1 ∧ Aside0 (supercargolaw12_boxes.l0 kq l0 x3_1 = some r) ∧ Aside0 (kq ≤ k) ∧ Drawn0 w w')
 case atStart => exact ⟨(0), (by first | rfl | (simp; done) | (simp [*]; done)), H', ⟨Nat.le_refl _⟩, by repeat (first | exact Drawn0.refl _ | apply Drawn0.step)⟩
 case round =>
  clear H'
  obtain ⟨x3_1, rfl, HA, HK1, ⟨m1, rfl⟩⟩ := hrel
  cases gk with
  | zero => exact absurd HA.out (by simp [supercargolaw12_boxes.l0])
  | succ k1 =>
   have H := HA.out
   clear HA
   simp only [supercargolaw12_boxes.l0] at H
   by_cases c2 : x3_1 < (l0.length : Int)
   ·rw [if_pos c2] at H
    have c2b0 : decide (x3_1 < (l0.length : Int)) = true := decide_eq_true c2
    clear c2
    by_cases c3 : 0 ≤ x3_1
    ·rw [if_pos c3] at H
     have c3b0 : decide (0 ≤ x3_1) = true := decide_eq_true c3
     clear c3
     by_cases c4 : (((rd_T44 l0 x3_1).f2).length : Int) > 12
     ·rw [if_pos c4] at H
      have c4b0 : decide (12 < (((rd_T44 l0 x3_1).f2).length : Int)) = true := decide_eq_true c4
      have c4b1 : decide (12 < ((rd_T44 l0 x3_1).f2).length) = true := decide_eq_true (by omega)
      clear c4
      obtain rfl := Option.some.inj H
      have p292 : 0 ≤ (x3_1 : Int) := of_decide_eq_true (by first | (with_reducible assumption) | assumption)
      have q292 : x3_1 < (l0.length : Int) := of_decide_eq_true (by first | (with_reducible assumption) | assumption)
      obtain ⟨ad292, A292_2, c292_2, e292, hx292_0, hx292_1, hx292_2, hl292_2, hi292_2⟩ := at_T44 HR0.out x3_1 p292 q292
      cases e292
      have HR292_2 := Aside0.mk hi292_2
      have HC292_2 := Aside0.mk hl292_2
      clear hi292_2 hl292_2
      replace p292 := eq_true p292
      replace q292 := eq_true q292
      go_wp2
      go_ret
      exact ⟨by first | rfl | (simp; done) | (simp [*]; done), by repeat (first | exact Drawn0.refl _ | apply Drawn0.step)⟩
     ·rw [if_neg c4] at H
      have c4b0 : decide (12 < (((rd_T44 l0 x3_1).f2).length : Int)) = false := decide_eq_false c4
      have c4b1 : decide (12 < ((rd_T44 l0 x3_1).f2).length) = false := decide_eq_false (by omega)
      clear c4
      replace H := Option.bind_eq_some_iff.mp H
      obtain ⟨t294, A50, H⟩ := H
      replace H : (if t294 = true then (if (((rd_T44 l0 x3_1).f0).size : Int) > 40 then (some false) else (supercargolaw12_boxes.l0 k1 l0 (wrap64 (x3_1 + 1)))) else (some false)) = some r := H
      have A5 := Aside0.mk A50
      clear A50
      by_cases c6 : t294 = true
      ·subst c6
       have H1 : (if (((rd_T44 l0 x3_1).f0).size : Int) > 40 then (some false) else (supercargolaw12_boxes.l0 k1 l0 (wrap64 (x3_1 + 1)))) = some r := by rw [if_pos rfl] at H; exact H
       clear H
       have H := H1
       clear H1
       by_cases c7 : (((rd_T44 l0 x3_1).f0).size : Int) > 40
       ·rw [if_pos c7] at H
        have c7b0 : decide (40 < (((rd_T44 l0 x3_1).f0).size : Int)) = true := decide_eq_true c7
        have c7b1 : decide (40 < ((rd_T44 l0 x3_1).f0).size) = true := decide_eq_true (by omega)
        clear c7
        obtain rfl := Option.some.inj H
        have p292 : 0 ≤ (x3_1 : Int) := of_decide_eq_true (by first | (with_reducible assumption) | assumption)
        have q292 : x3_1 < (l0.length : Int) := of_decide_eq_true (by first | (with_reducible assumption) | assumption)
        obtain ⟨ad292, A292_2, c292_2, e292, hx292_0, hx292_1, hx292_2, hl292_2, hi292_2⟩ := at_T44 HR0.out x3_1 p292 q292
        cases e292
        have HR292_2 := Aside0.mk hi292_2
        have HC292_2 := Aside0.mk hl292_2
        clear hi292_2 hl292_2
        replace p292 := eq_true p292
        replace q292 := eq_true q292
        have p293 : 0 ≤ (x3_1 : Int) := of_decide_eq_true (by first | (with_reducible assumption) | assumption)
        have q293 : x3_1 < (l0.length : Int) := of_decide_eq_true (by first | (with_reducible assumption) | assumption)
        obtain ⟨ad293, A293_2, c293_2, e293, hx293_0, hx293_1, hx293_2, hl293_2, hi293_2⟩ := at_T44 HR0.out x3_1 p293 q293
        obtain rfl : ad292 = ad293 := (by injection e293)
        have HR293_2 := Aside0.mk hi293_2
        have HC293_2 := Aside0.mk hl293_2
        clear hi293_2 hl293_2
        replace p293 := eq_true p293
        replace q293 := eq_true q293
        have ea_ := Option.some.inj (hx292_2.symm.trans hx293_2)
        injection ea_ with ea_ en_ ec_
        subst ea_
        subst ec_
        clear en_
        go_wp2_with (first | (go_at_call 61; (with_reducible refine (supercargoref11_Few.calls k1 _ _ ((rd_T44 l0 x3_1).f2) true _ ?side1 ?side2 A5.out).mono ?_); (case side1 => repeat (first | exact HR293_2.out | (with_reducible refine Kd.C_alloc ?_ _) | (with_reducible refine Kd.C_drewN ?_ _) | (with_reducible refine Kd.C_drew ?_))); (case side2 => exact HC293_2.out); rintro e w' ⟨rfl, ⟨nd, rfl⟩⟩; have p295 : 0 ≤ (x3_1 : Int) := of_decide_eq_true (by first | (with_reducible assumption) | assumption); have q295 : x3_1 < (l0.length : Int) := of_decide_eq_true (by first | (with_reducible assumption) | assumption); obtain ⟨ad295, A295_2, c295_2, e295, hx295_0, hx295_1, hx295_2, hl295_2, hi295_2⟩ := at_T44 HR0.out x3_1 p295 q295; obtain rfl : ad292 = ad295 := (by injection e295); have HR295_2 := Aside0.mk hi295_2; have HC295_2 := Aside0.mk hl295_2; clear hi295_2 hl295_2; replace p295 := eq_true p295; replace q295 := eq_true q295; have ea_ := Option.some.inj (hx292_2.symm.trans hx295_2); injection ea_ with ea_ en_ ec_; subst ea_; subst ec_; clear en_))
        go_ret
        exact ⟨by first | rfl | (simp; done) | (simp [*]; done), by repeat (first | exact Drawn0.refl _ | apply Drawn0.step)⟩
       ·rw [if_neg c7] at H
        have c7b0 : decide (40 < (((rd_T44 l0 x3_1).f0).size : Int)) = false := decide_eq_false c7
        have c7b1 : decide (40 < ((rd_T44 l0 x3_1).f0).size) = false := decide_eq_false (by omega)
        clear c7
        have H' := Aside0.mk H
        clear H
        have p292 : 0 ≤ (x3_1 : Int) := of_decide_eq_true (by first | (with_reducible assumption) | assumption)
        have q292 : x3_1 < (l0.length : Int) := of_decide_eq_true (by first | (with_reducible assumption) | assumption)
        obtain ⟨ad292, A292_2, c292_2, e292, hx292_0, hx292_1, hx292_2, hl292_2, hi292_2⟩ := at_T44 HR0.out x3_1 p292 q292
        cases e292
        have HR292_2 := Aside0.mk hi292_2
        have HC292_2 := Aside0.mk hl292_2
        clear hi292_2 hl292_2
        replace p292 := eq_true p292
        replace q292 := eq_true q292
        have p293 : 0 ≤ (x3_1 : Int) := of_decide_eq_true (by first | (with_reducible assumption) | assumption)
        have q293 : x3_1 < (l0.length : Int) := of_decide_eq_true (by first | (with_reducible assumption) | assumption)
        obtain ⟨ad293, A293_2, c293_2, e293, hx293_0, hx293_1, hx293_2, hl293_2, hi293_2⟩ := at_T44 HR0.out x3_1 p293 q293
        obtain rfl : ad292 = ad293 := (by injection e293)
        have HR293_2 := Aside0.mk hi293_2
        have HC293_2 := Aside0.mk hl293_2
        clear hi293_2 hl293_2
        replace p293 := eq_true p293
        replace q293 := eq_true q293
        have ea_ := Option.some.inj (hx292_2.symm.trans hx293_2)
        injection ea_ with ea_ en_ ec_
        subst ea_
        subst ec_
        clear en_
        go_wp2_with (first | (go_at_call 61; (with_reducible refine (supercargoref11_Few.calls k1 _ _ ((rd_T44 l0 x3_1).f2) true _ ?side1 ?side2 A5.out).mono ?_); (case side1 => repeat (first | exact HR293_2.out | (with_reducible refine Kd.C_alloc ?_ _) | (with_reducible refine Kd.C_drewN ?_ _) | (with_reducible refine Kd.C_drew ?_))); (case side2 => exact HC293_2.out); rintro e w' ⟨rfl, ⟨nd, rfl⟩⟩; have p295 : 0 ≤ (x3_1 : Int) := of_decide_eq_true (by first | (with_reducible assumption) | assumption); have q295 : x3_1 < (l0.length : Int) := of_decide_eq_true (by first | (with_reducible assumption) | assumption); obtain ⟨ad295, A295_2, c295_2, e295, hx295_0, hx295_1, hx295_2, hl295_2, hi295_2⟩ := at_T44 HR0.out x3_1 p295 q295; obtain rfl : ad292 = ad295 := (by injection e295); have HR295_2 := Aside0.mk hi295_2; have HC295_2 := Aside0.mk hl295_2; clear hi295_2 hl295_2; replace p295 := eq_true p295; replace q295 := eq_true q295; have ea_ := Option.some.inj (hx292_2.symm.trans hx295_2); injection ea_ with ea_ en_ ec_; subst ea_; subst ec_; clear en_))
        go_roundg k1
        case measure => have := HK1.out; omega
        case rel => exact ⟨(wrap64 (x3_1 + 1)), (by first | rfl | (simp; done) | (simp [*]; done)), H', ⟨by have := HK1.out; omega⟩, by repeat (first | exact Drawn0.refl _ | apply Drawn0.step)⟩
      ·replace c6 := Bool.eq_false_iff.mpr c6
       subst c6
       have H1 : (some false) = some r := by rw [if_neg (show ¬ (false = true) by decide)] at H; exact H
       clear H
       have H := H1
       clear H1
       obtain rfl := Option.some.inj H
       have p292 : 0 ≤ (x3_1 : Int) := of_decide_eq_true (by first | (with_reducible assumption) | assumption)
       have q292 : x3_1 < (l0.length : Int) := of_decide_eq_true (by first | (with_reducible assumption) | assumption)
       obtain ⟨ad292, A292_2, c292_2, e292, hx292_0, hx292_1, hx292_2, hl292_2, hi292_2⟩ := at_T44 HR0.out x3_1 p292 q292
       cases e292
       have HR292_2 := Aside0.mk hi292_2
       have HC292_2 := Aside0.mk hl292_2
       clear hi292_2 hl292_2
       replace p292 := eq_true p292
       replace q292 := eq_true q292
       have p293 : 0 ≤ (x3_1 : Int) := of_decide_eq_true (by first | (with_reducible assumption) | assumption)
       have q293 : x3_1 < (l0.length : Int) := of_decide_eq_true (by first | (with_reducible assumption) | assumption)
       obtain ⟨ad293, A293_2, c293_2, e293, hx293_0, hx293_1, hx293_2, hl293_2, hi293_2⟩ := at_T44 HR0.out x3_1 p293 q293
       obtain rfl : ad292 = ad293 := (by injection e293)
       have HR293_2 := Aside0.mk hi293_2
       have HC293_2 := Aside0.mk hl293_2
       clear hi293_2 hl293_2
       replace p293 := eq_true p293
       replace q293 := eq_true q293
       have ea_ := Option.some.inj (hx292_2.symm.trans hx293_2)
       injection ea_ with ea_ en_ ec_
       subst ea_
       subst ec_
       clear en_
       go_wp2_with (first | (go_at_call 61; (with_reducible refine (supercargoref11_Few.calls k1 _ _ ((rd_T44 l0 x3_1).f2) false _ ?side1 ?side2 A5.out).mono ?_); (case side1 => repeat (first | exact HR293_2.out | (with_reducible refine Kd.C_alloc ?_ _) | (with_reducible refine Kd.C_drewN ?_ _) | (with_reducible refine Kd.C_drew ?_))); (case side2 => exact HC293_2.out); rintro e w' ⟨rfl, ⟨nd, rfl⟩⟩))
       go_ret
       exact ⟨by first | rfl | (simp; done) | (simp [*]; done), by repeat (first | exact Drawn0.refl _ | apply Drawn0.step)⟩
    ·rw [if_neg c3] at H
     exact absurd H (by simp)
   ·rw [if_neg c2] at H
    have c2b0 : decide (x3_1 < (l0.length : Int)) = false := decide_eq_false c2
    clear c2
    obtain rfl := Option.some.inj H
    go_wp2
    go_ret
    exact ⟨by first | rfl | (simp; done) | (simp [*]; done), by repeat (first | exact Drawn0.refl _ | apply Drawn0.step)⟩
def api_Lot.l0 : Nat → List (S55) → List (S55) → Int → Int → Option (Bool)
 | 0, _, _, _, _ => none
 | k + 1, x0, x1, x12, x13 => if x13 < x12 then (if 0 ≤ x13 then (if x13 < (x0.length : Int) then (if x13 < (x1.length : Int) then (if (!((((rd_T55 x0 x13).f0).toList) == (((rd_T55 x1 x13).f0).toList)) || (!(((rd_T55 x0 x13).f1) == ((rd_T55 x1 x13).f1)))) = true then (some false) else (api_Lot.l0 k x0 x1 x12 (wrap64 (x13 + 1)))) else (none)) else (none)) else (none)) else (some true)
def api_Lot.f (k : Nat) (l0 : List (S55)) (l1 : List (S55)) : Option (Bool) := if (l0.length : Int) = (l1.length : Int) then (api_Lot.l0 k l0 l1 (l0.length : Int) 0) else (some false)
theorem api_Lot.mono_l : ∀ k, (∀ y0 y1 y2 y3, LeO (api_Lot.l0 k y0 y1 y2 y3) (api_Lot.l0 (k + 1) y0 y1 y2 y3))
 | 0 => fun _ _ _ _ r h => by simp [api_Lot.l0] at h
 | k + 1 => by
  have ih0 := api_Lot.mono_l k
  ·intro y0 y1 y2 y3
   unfold api_Lot.l0
   repeat' first
   | (with_reducible exact ih0 _ _ _ _)
   | (with_reducible exact LeO.refl _)
   | (with_reducible exact LeO.none _)
   | (with_reducible refine LeO.ite ?_ ?_)
   | (with_reducible refine LeO.bind ?_ (fun _ => ?_))
   | exact ih0 _ _ _ _
   | exact LeO.none _
   | refine LeO.ite ?_ ?_
   | refine LeO.bind ?_ (fun _ => ?_)
theorem api_Lot.mono : ∀ a0 a1 k, LeO (api_Lot.f k a0 a1) (api_Lot.f (k + 1) a0 a1) := by
 intro a0 a1 k
 have ih0 := api_Lot.mono_l k
 unfold api_Lot.f
 repeat' first
   | (with_reducible exact ih0 _ _ _ _)
   | (with_reducible exact LeO.refl _)
   | (with_reducible exact LeO.none _)
   | (with_reducible refine LeO.ite ?_ ?_)
   | (with_reducible refine LeO.bind ?_ (fun _ => ?_))
   | exact ih0 _ _ _ _
   | exact LeO.none _
   | refine LeO.ite ?_ ?_
   | refine LeO.bind ?_ (fun _ => ?_)
set_option maxHeartbeats 8000000 in
set_option maxRecDepth 100000 in
theorem api_Lot.calls (k : Nat) (A0 : Option Addr) (c0 : Nat) (l0 : List (S55)) (A1 : Option Addr) (c1 : Nat) (l1 : List (S55)) (r : Bool) (w : World) (hr0 : Kd.C k55 w A0 l0.length l0) (hc0 : l0.length ≤ c0) (hr1 : Kd.C k55 w A1 l1.length l1) (hc1 : l1.length ≤ c1) (h : api_Lot.f k l0 l1 = some r) :
  Calls Tryz.prog 60 #[.slice A0 l0.length c0, .slice A1 l1.length c1] w fun e w' => e = .returned (.bool r) ∧ Drawn0 w w' := by
 have hu55 := Tryz.underlying55
 have HR0 := Aside0.mk hr0
 have HC0 := Aside0.mk hc0
 clear hr0 hc0
 have HR1 := Aside0.mk hr1
 have HC1 := Aside0.mk hc1
 clear hr1 hc1
 have H : (if (l0.length : Int) = (l1.length : Int) then (api_Lot.l0 k l0 l1 (l0.length : Int) 0) else (some false)) = some r := h
 clear h
 by_cases c3 : (l0.length : Int) = (l1.length : Int)
 ·rw [if_pos c3] at H
  have c3b0 : ((l0.length : Int) == (l1.length : Int)) = true := beq_iff_eq.mpr c3
  have c3b1 : ((l0.length : Int) != (l1.length : Int)) = false := bne_eq_false_iff_eq.mpr c3
  have c3b2 : (l0.length == l1.length) = true := by first | simpa using c3 | (simp at c3 ⊢; omega)
  clear c3
  have H' := Aside0.mk H
  clear H
  go_enter Tryz.func60, Tryz.ntmps60
  go_wp2
  repeat (go_quiet (fail); try go_wp2)
  go_loopg [13] k (fun kq v13 w' => ∃ (x13_1 : Int), v13 = .int .i64 x13_1 ∧ Aside0 (api_Lot.l0 kq l0 l1 (l0.length : Int) x13_1 = some r) ∧ Aside0 (kq ≤ k) ∧ Drawn0 w w')
  case atStart => exact ⟨(0), (by first | rfl | (simp; done) | (simp [*]; done)), H', ⟨Nat.le_refl _⟩, by repeat (first | exact Drawn0.refl _ | apply Drawn0.step)⟩
  case round =>
   clear H'
   try clear c1
   try clear p2
   try clear c3
   try clear c3b0
   try clear c3b1
   try clear c3b2
   obtain ⟨x13_1, rfl, HA, HK1, ⟨m1, rfl⟩⟩ := hrel
   cases gk with
   | zero => exact absurd HA.out (by simp [api_Lot.l0])
   | succ k1 =>
    have H := HA.out
    clear HA
    simp only [api_Lot.l0] at H
    by_cases c4 : x13_1 < (l0.length : Int)
    ·rw [if_pos c4] at H
     have c4b0 : decide (x13_1 < (l0.length : Int)) = true := decide_eq_true c4
     clear c4
     by_cases c5 : 0 ≤ x13_1
     ·rw [if_pos c5] at H
      have c5b0 : decide (0 ≤ x13_1) = true := decide_eq_true c5
      clear c5
      by_cases c6 : x13_1 < (l0.length : Int)
      ·rw [if_pos c6] at H
       have c6b0 : decide (x13_1 < (l0.length : Int)) = true := decide_eq_true c6
       clear c6
       by_cases c7 : x13_1 < (l1.length : Int)
       ·rw [if_pos c7] at H
        have c7b0 : decide (x13_1 < (l1.length : Int)) = true := decide_eq_true c7
        clear c7
        by_cases c8 : (!((((rd_T55 l0 x13_1).f0).toList) == (((rd_T55 l1 x13_1).f0).toList)) || (!(((rd_T55 l0 x13_1).f1) == ((rd_T55 l1 x13_1).f1)))) = true
        ·rw [if_pos c8] at H
         have c8b0 : (!((((rd_T55 l0 x13_1).f0).toList) == (((rd_T55 l1 x13_1).f0).toList)) || (!(((rd_T55 l0 x13_1).f1) == ((rd_T55 l1 x13_1).f1)))) = true := c8
         clear c8
         obtain rfl := Option.some.inj H
         have p296 : 0 ≤ (x13_1 : Int) := of_decide_eq_true (by first | (with_reducible assumption) | assumption)
         have q296 : x13_1 < (l0.length : Int) := of_decide_eq_true (by first | (with_reducible assumption) | assumption)
         obtain ⟨ad296, e296, hx296_0, hx296_1⟩ := at_T55 HR0.out x13_1 p296 q296
         cases e296
         replace p296 := eq_true p296
         replace q296 := eq_true q296
         have p297 : 0 ≤ (x13_1 : Int) := of_decide_eq_true (by first | (with_reducible assumption) | assumption)
         have q297 : x13_1 < (l1.length : Int) := of_decide_eq_true (by first | (with_reducible assumption) | assumption)
         obtain ⟨ad297, e297, hx297_0, hx297_1⟩ := at_T55 HR1.out x13_1 p297 q297
         cases e297
         replace p297 := eq_true p297
         replace q297 := eq_true q297
         go_wp2
         repeat (go_quiet (fail); try go_wp2)
         go_ret
         exact ⟨by first | rfl | (simp; done) | (simp [*]; done), by repeat (first | exact Drawn0.refl _ | apply Drawn0.step)⟩
        ·rw [if_neg c8] at H
         have c8b0 : (!((((rd_T55 l0 x13_1).f0).toList) == (((rd_T55 l1 x13_1).f0).toList)) || (!(((rd_T55 l0 x13_1).f1) == ((rd_T55 l1 x13_1).f1)))) = false := by simpa using c8
         clear c8
         have H' := Aside0.mk H
         clear H
         have p296 : 0 ≤ (x13_1 : Int) := of_decide_eq_true (by first | (with_reducible assumption) | assumption)
         have q296 : x13_1 < (l0.length : Int) := of_decide_eq_true (by first | (with_reducible assumption) | assumption)
         obtain ⟨ad296, e296, hx296_0, hx296_1⟩ := at_T55 HR0.out x13_1 p296 q296
         cases e296
         replace p296 := eq_true p296
         replace q296 := eq_true q296
         have p297 : 0 ≤ (x13_1 : Int) := of_decide_eq_true (by first | (with_reducible assumption) | assumption)
         have q297 : x13_1 < (l1.length : Int) := of_decide_eq_true (by first | (with_reducible assumption) | assumption)
         obtain ⟨ad297, e297, hx297_0, hx297_1⟩ := at_T55 HR1.out x13_1 p297 q297
         cases e297
         replace p297 := eq_true p297
         replace q297 := eq_true q297
         go_wp2
         repeat (go_quiet (fail); try go_wp2)
         go_roundg k1
         case measure => have := HK1.out; omega
         case rel => exact ⟨(wrap64 (x13_1 + 1)), (by first | rfl | (simp; done) | (simp [*]; done)), H', ⟨by have := HK1.out; omega⟩, by repeat (first | exact Drawn0.refl _ | apply Drawn0.step)⟩
       ·rw [if_neg c7] at H
        exact absurd H (by simp)
      ·rw [if_neg c6] at H
       exact absurd H (by simp)
     ·rw [if_neg c5] at H
      exact absurd H (by simp)
    ·rw [if_neg c4] at H
     have c4b0 : decide (x13_1 < (l0.length : Int)) = false := decide_eq_false c4
     clear c4
     obtain rfl := Option.some.inj H
     go_wp2
     repeat (go_quiet (fail); try go_wp2)
     go_ret
     exact ⟨by first | rfl | (simp; done) | (simp [*]; done), by repeat (first | exact Drawn0.refl _ | apply Drawn0.step)⟩
 ·rw [if_neg c3] at H
  have c3b0 : ((l0.length : Int) == (l1.length : Int)) = false := beq_eq_false_iff_ne.mpr c3
  have c3b1 : ((l0.length : Int) != (l1.length : Int)) = true := bne_iff_ne.mpr c3
  have c3b2 : (l0.length == l1.length) = false := by first | simpa using c3 | (simp at c3 ⊢; omega)
  obtain rfl := Option.some.inj H
  go_enter Tryz.func60, Tryz.ntmps60
  go_wp2
  repeat (go_quiet (fail); try go_wp2)
  go_ret
  exact ⟨by first | rfl | (simp; done) | (simp [*]; done), by repeat (first | exact Drawn0.refl _ | apply Drawn0.step)⟩
end Go.Proofs.YtfflbeenkfaemaaGreatDoor.X
namespace Go.Proofs.YtfflbeenkfaemaaGreatDoor.Ref
open Go.RowKit Go.Proofs.YtfflbeenkfaemaaGreatDoor.Ext Go.Proofs.YtfflbeenkfaemaaGreatDoor.X Go.Proofs.YtfflbeenkfaemaaGreatDoorW.PrintWords
theorem wn {i n : Nat} (h : i < n) (hn : n ≤ 1000000000) : wrap64 ((i : Int) + 1) = ((i + 1 : Nat) : Int) := by unfold wrap64; omega
theorem w64' {x : Int} (h : -9223372036854775808 ≤ x) (h2 : x ≤ 9223372036854775807) : wrap64 x = x := by unfold wrap64; omega
theorem rd44 (l : List X.S44) (i : Nat) (h : i < l.length) : rd_T44 l (i : Int) = l[i] := by simp [rd_T44, List.getD, List.getElem?_eq_getElem h]
theorem bytes_iff (a b : ByteArray) : a.toList = b.toList ↔ a = b := by
 rw [ByteArray.toList_eq, ByteArray.toList_eq]
 exact ⟨fun h => ByteArray.ext (Array.toList_inj.1 h), fun h => by rw [h]⟩
def contentL (bs : List X.S44) : List X.S55 := bs.flatMap X.S44.f2
theorem contentL_next (bs : List X.S44) (i : Nat) (h : i < bs.length) : contentL (bs.drop i) = (rd_T44 bs (i : Int)).f2 ++ contentL (bs.drop (i + 1)) := by
 have e : rd_T44 bs (i : Int) = bs[i] := by simp [rd_T44, List.getD, List.getElem?_eq_getElem h]
 rw [List.drop_eq_getElem_cons h, e]
 rfl
theorem content_l (bs : List X.S44) (hb : bs.length ≤ 1000000) (d : Nat) : ∀ (k i : Nat) (acc : List X.S55), i + d = bs.length → d < k → acc.length + (contentL (bs.drop i)).length ≤ 100000 →
  pack_Content.l0 k acc bs (bs.length : Int) (i : Int) = goods_Join.f (acc ++ contentL (bs.drop i)) := by
 induction d with
 | zero =>
  intro k i acc hi hk hl
  obtain ⟨k, rfl⟩ : ∃ m, k = m + 1 := ⟨k - 1, by omega⟩
  simp only [pack_Content.l0]
  rw [if_neg (by omega), List.drop_eq_nil_of_le (by omega)]
  simp [contentL]
 | succ d ih =>
  intro k i acc hi hk hl
  obtain ⟨k, rfl⟩ : ∃ m, k = m + 1 := ⟨k - 1, by omega⟩
  have hlt : i < bs.length := by omega
  rw [contentL_next bs i hlt, List.length_append] at hl
  simp only [pack_Content.l0]
  rw [if_pos (by omega), if_pos (by omega), if_pos (by omega), if_pos (by omega), wn hlt (by omega), ih k (i + 1) _ (by omega) (by omega) (by rw [List.length_append]; omega), contentL_next bs i hlt, List.append_assoc]
theorem content_f (bs : List X.S44) (hb : bs.length ≤ 1000000) (hl : (contentL bs).length ≤ 100000) (k : Nat) (hk : bs.length < k) : pack_Content.f k bs = goods_Join.f (contentL bs) := by
 have := content_l bs hb bs.length k 0 [] (by omega) hk (by simpa using hl)
 simpa [pack_Content.f] using this
theorem refContent_l (bs : List X.S44) (hb : bs.length ≤ 1000000) (d : Nat) : ∀ (k i : Nat) (acc : List X.S55), i + d = bs.length → d < k → acc.length + (contentL (bs.drop i)).length ≤ 100000 →
  supercargoref12_Content.l0 k bs acc (i : Int) = supercargoref11_Join.f (acc ++ contentL (bs.drop i)) := by
 induction d with
 | zero =>
  intro k i acc hi hk hl
  obtain ⟨k, rfl⟩ : ∃ m, k = m + 1 := ⟨k - 1, by omega⟩
  simp only [supercargoref12_Content.l0]
  rw [if_neg (by omega), List.drop_eq_nil_of_le (by omega)]
  simp [contentL]
 | succ d ih =>
  intro k i acc hi hk hl
  obtain ⟨k, rfl⟩ : ∃ m, k = m + 1 := ⟨k - 1, by omega⟩
  have hlt : i < bs.length := by omega
  rw [contentL_next bs i hlt, List.length_append] at hl
  simp only [supercargoref12_Content.l0]
  rw [if_pos (by omega), if_pos (by omega), if_pos (by omega), wn hlt (by omega), ih k (i + 1) _ (by omega) (by omega) (by rw [List.length_append]; omega), contentL_next bs i hlt, List.append_assoc]
theorem refContent_f (bs : List X.S44) (hb : bs.length ≤ 1000000) (hl : (contentL bs).length ≤ 100000) (k : Nat) (hk : bs.length < k) : supercargoref12_Content.f k bs = supercargoref11_Join.f (contentL bs) := by
 have := refContent_l bs hb bs.length k 0 [] (by omega) hk (by simpa using hl)
 simpa [supercargoref12_Content.f] using this
theorem ne55 (a b : X.S55) : (!(((a.f0).toList) == ((b.f0).toList)) || (!((a.f1) == (b.f1)))) = true ↔ a ≠ b := by
 obtain ⟨a0, a1⟩ := a
 obtain ⟨b0, b1⟩ := b
 simp only [Bool.or_eq_true, Bool.not_eq_true', beq_eq_false_iff_ne, ne_eq, X.S55.mk.injEq, bytes_iff]
 constructor
 ·rintro (h | h) ⟨h1, h2⟩
  ·exact h h1
  ·exact h h2
 ·intro h
  by_cases h1 : a0 = b0
  ·exact .inr fun h2 => h ⟨h1, h2⟩
  ·exact .inl h1
theorem rd55 (l : List X.S55) (i : Nat) (h : i < l.length) : rd_T55 l (i : Int) = l[i] := by simp [rd_T55, List.getD, List.getElem?_eq_getElem h]
theorem equal_l (l m : List X.S55) (hl : l.length ≤ 1000000) (hm : l.length = m.length) (d : Nat) : ∀ (k i : Nat), i + d = l.length → d < k → l.take i = m.take i →
  api_Lot.l0 k l m (l.length : Int) (i : Int) = some (decide (l = m)) := by
 induction d with
 | zero =>
  intro k i hi hk ht
  obtain ⟨k, rfl⟩ : ∃ q, k = q + 1 := ⟨k - 1, by omega⟩
  simp only [api_Lot.l0]
  rw [if_neg (by omega)]
  rw [List.take_of_length_le (by omega), List.take_of_length_le (by omega)] at ht
  simp [ht]
 | succ d ih =>
  intro k i hi hk ht
  obtain ⟨k, rfl⟩ : ∃ q, k = q + 1 := ⟨k - 1, by omega⟩
  have hlt : i < l.length := by omega
  have hlt2 : i < m.length := by omega
  simp only [api_Lot.l0]
  rw [if_pos (by omega), if_pos (by omega), if_pos (by omega), if_pos (by omega)]
  by_cases hne : rd_T55 l (i : Int) ≠ rd_T55 m (i : Int)
  ·rw [if_pos ((ne55 _ _).2 hne)]
   have : l ≠ m := fun e => hne (by rw [e])
   simp [this]
  ·rw [if_neg (fun h => hne ((ne55 _ _).1 h)), wn hlt (by omega)]
   refine ih k (i + 1) (by omega) (by omega) ?_
   rw [List.take_add_one, List.take_add_one, ht, List.getElem?_eq_getElem hlt, List.getElem?_eq_getElem hlt2, ← rd55 l i hlt, ← rd55 m i hlt2]
   have : rd_T55 l (i : Int) = rd_T55 m (i : Int) := Classical.not_not.1 hne
   rw [this]
theorem equal_f (l m : List X.S55) (hl : l.length ≤ 1000000) (k : Nat) (hk : l.length < k) : api_Lot.f k l m = some (decide (l = m)) := by
 unfold api_Lot.f
 by_cases h : l.length = m.length
 ·rw [if_pos (by omega)]
  exact equal_l l m hl h l.length k 0 (by omega) hk rfl
 ·rw [if_neg (by omega)]
  have : l ≠ m := fun e => h (by rw [e])
  simp [this]
theorem same_l (l m : List X.S55) (hl : l.length ≤ 1000000) (hm : l.length = m.length) (d : Nat) : ∀ (k i : Nat), i + d = l.length → d < k → l.take i = m.take i →
  supercargoref11_Same.l0 k l m (i : Int) = some (decide (l = m)) := by
 induction d with
 | zero =>
  intro k i hi hk ht
  obtain ⟨k, rfl⟩ : ∃ q, k = q + 1 := ⟨k - 1, by omega⟩
  simp only [supercargoref11_Same.l0]
  rw [if_neg (by omega)]
  rw [List.take_of_length_le (by omega), List.take_of_length_le (by omega)] at ht
  simp [ht]
 | succ d ih =>
  intro k i hi hk ht
  obtain ⟨k, rfl⟩ : ∃ q, k = q + 1 := ⟨k - 1, by omega⟩
  have hlt : i < l.length := by omega
  have hlt2 : i < m.length := by omega
  simp only [supercargoref11_Same.l0]
  rw [if_pos (by omega), if_pos (by omega), if_pos (by omega)]
  by_cases hne : rd_T55 l (i : Int) ≠ rd_T55 m (i : Int)
  ·rw [if_pos ((ne55 _ _).2 hne)]
   have : l ≠ m := fun e => hne (by rw [e])
   simp [this]
  ·rw [if_neg (fun h => hne ((ne55 _ _).1 h)), wn hlt (by omega)]
   refine ih k (i + 1) (by omega) (by omega) ?_
   rw [List.take_add_one, List.take_add_one, ht, List.getElem?_eq_getElem hlt, List.getElem?_eq_getElem hlt2, ← rd55 l i hlt, ← rd55 m i hlt2]
   have : rd_T55 l (i : Int) = rd_T55 m (i : Int) := Classical.not_not.1 hne
   rw [this]
theorem same_f (l m : List X.S55) (hl : l.length ≤ 1000000) (k : Nat) (hk : l.length < k) : supercargoref11_Same.f k l m = some (decide (l = m)) := by
 unfold supercargoref11_Same.f
 by_cases h : l.length = m.length
 ·rw [if_pos (by omega)]
  exact same_l l m hl h l.length k 0 (by omega) hk rfl
 ·rw [if_neg (by omega)]
  have : l ≠ m := fun e => h (by rw [e])
  simp [this]
end Go.Proofs.YtfflbeenkfaemaaGreatDoor.Ref
namespace Go.Proofs.YtfflbeenkfaemaaGreatDoor.Ref
open Go.RowKit Go.Proofs.YtfflbeenkfaemaaGreatDoor.Ext Go.Proofs.YtfflbeenkfaemaaGreatDoor.X Go.Proofs.YtfflbeenkfaemaaGreatDoorW.PrintWords
def fewOne (x : X.S55) : Bool := decide (x.f0.size ≤ 60) && decide (x.f1 ≤ 1099511627776)
def fewL (l : List X.S55) : Bool := decide (l.length ≤ 41) && l.all fewOne
theorem few_l (l : List X.S55) (hl : l.length ≤ 1000000) (d : Nat) : ∀ (k i : Nat), i + d = l.length → d < k → i ≤ 41 →
  supercargoref11_Few.l0 k l (i : Int) = some (decide (l.length ≤ 41) && (l.drop i).all fewOne) := by
 induction d with
 | zero =>
  intro k i hi hk h41
  obtain ⟨k, rfl⟩ : ∃ m, k = m + 1 := ⟨k - 1, by omega⟩
  simp only [supercargoref11_Few.l0]
  rw [if_neg (by omega), List.drop_eq_nil_of_le (by omega), decide_eq_true (show l.length ≤ 41 by omega)]
  rfl
 | succ d ih =>
  intro k i hi hk h41
  obtain ⟨k, rfl⟩ : ∃ m, k = m + 1 := ⟨k - 1, by omega⟩
  have hlt : i < l.length := by omega
  simp only [supercargoref11_Few.l0]
  rw [if_pos (by omega)]
  by_cases h1 : (i : Int) > 40
  ·rw [if_pos h1, decide_eq_false (show ¬ l.length ≤ 41 by omega)]
   rfl
  ·rw [if_neg h1, if_pos (by omega), rd55 l i hlt, List.drop_eq_getElem_cons hlt, List.all_cons]
   by_cases h2 : (l[i].f0.size : Int) > 60
   ·rw [if_pos h2]
    unfold fewOne
    rw [decide_eq_false (show ¬ l[i].f0.size ≤ 60 by omega)]
    simp
   ·rw [if_neg h2]
    by_cases h3 : l[i].f1 > 1099511627776
    ·rw [if_pos h3]
     unfold fewOne
     rw [decide_eq_false (show ¬ l[i].f1 ≤ 1099511627776 by omega)]
     simp
    ·rw [if_neg h3, wn hlt (by omega), ih k (i + 1) (by omega) (by omega) (by omega)]
     have : fewOne l[i] = true := by unfold fewOne; simp; omega
     rw [this, Bool.true_and]
theorem few_f (l : List X.S55) (hl : l.length ≤ 1000000) (k : Nat) (hk : l.length < k) : supercargoref11_Few.f k l = some (fewL l) := by
 unfold supercargoref11_Few.f
 rw [show (0 : Int) = ((0 : Nat) : Int) from rfl, few_l l hl l.length k 0 (by omega) hk (by omega)]
 rfl
def fewG (gs : List X.S30) (l : List X.S55) : Bool := decide (gs.length ≤ 12) && decide (l.length ≤ 12) && fewL l
theorem fewG_f (gs : List X.S30) (l : List X.S55) (k : Nat) (hk : 13 ≤ k) : supercargolaw12_few.f k gs l = some (fewG gs l) := by
 unfold supercargolaw12_few.f fewG
 by_cases h1 : gs.length ≤ 12
 ·rw [if_pos (by omega), decide_eq_true h1]
  by_cases h2 : l.length ≤ 12
  ·rw [if_pos (by omega), decide_eq_true h2, few_f l (by omega) k (by omega)]
   rfl
  ·rw [if_neg (by omega), decide_eq_false h2]
   rfl
 ·rw [if_neg (by omega), decide_eq_false h1]
  rfl
def boxOne (b : X.S44) : Bool := decide (b.f2.length ≤ 12) && fewL b.f2 && decide (b.f0.size ≤ 40)
def boxesL (bs : List X.S44) : Bool := bs.all boxOne && decide (bs.length ≤ 20)
theorem wn63 {i n : Nat} (h : i < n) (hn : n ≤ 9223372036854775807) : wrap64 ((i : Int) + 1) = ((i + 1 : Nat) : Int) := by unfold wrap64; omega
theorem boxes_l (bs : List X.S44) (hl : bs.length ≤ 9223372036854775807) (d : Nat) : ∀ (k i : Nat), i + d = bs.length → d + 13 < k →
  supercargolaw12_boxes.l0 k bs (i : Int) = some ((bs.drop i).all boxOne && decide (bs.length ≤ 20)) := by
 induction d with
 | zero =>
  intro k i hi hk
  obtain ⟨k, rfl⟩ : ∃ m, k = m + 1 := ⟨k - 1, by omega⟩
  simp only [supercargolaw12_boxes.l0]
  rw [if_neg (by omega), List.drop_eq_nil_of_le (by omega)]
  congr 1
  simp only [List.all_nil, Bool.true_and]
  exact decide_eq_decide.2 (by omega)
 | succ d ih =>
  intro k i hi hk
  obtain ⟨k, rfl⟩ : ∃ m, k = m + 1 := ⟨k - 1, by omega⟩
  have hlt : i < bs.length := by omega
  simp only [supercargolaw12_boxes.l0]
  rw [if_pos (by omega), if_pos (by omega), rd44 bs i hlt, List.drop_eq_getElem_cons hlt, List.all_cons]
  by_cases h2 : (bs[i].f2.length : Int) > 12
  ·rw [if_pos h2]
   unfold boxOne
   rw [decide_eq_false (show ¬ bs[i].f2.length ≤ 12 by omega)]
   rfl
  ·rw [if_neg h2, few_f _ (by omega) k (by omega), Option.bind_some]
   have e : boxOne bs[i] = (fewL bs[i].f2 && decide (bs[i].f0.size ≤ 40)) := by
    unfold boxOne
    rw [decide_eq_true (show bs[i].f2.length ≤ 12 by omega), Bool.true_and]
   rw [e]
   by_cases h3 : fewL bs[i].f2 = true
   ·rw [if_pos h3, h3]
    by_cases h4 : (bs[i].f0.size : Int) > 40
    ·rw [if_pos h4, decide_eq_false (show ¬ bs[i].f0.size ≤ 40 by omega)]
     rfl
    ·rw [if_neg h4, decide_eq_true (show bs[i].f0.size ≤ 40 by omega), wn63 hlt (by omega), ih k (i + 1) (by omega) (by omega)]
     rfl
   ·rw [if_neg h3, Bool.eq_false_iff.2 h3]
    rfl
theorem boxes_f (bs : List X.S44) (hl : bs.length ≤ 9223372036854775807) (k : Nat) (hk : bs.length + 13 < k) : supercargolaw12_boxes.f k bs = some (boxesL bs) := by
 unfold supercargolaw12_boxes.f
 rw [show (0 : Int) = ((0 : Nat) : Int) from rfl, boxes_l bs hl bs.length k 0 (by omega) hk]
 rfl
end Go.Proofs.YtfflbeenkfaemaaGreatDoor.Ref
namespace Go.Proofs.YtfflbeenkfaemaaGreatDoor.Ext
open Go.RowKit Go.Proofs.YtfflbeenkfaemaaGreatDoor.Ref Go.Proofs.YtfflbeenkfaemaaGreatDoorW.PrintWords Go.Proofs.YtfflbeenkfaemaaGreatDoorW.PrintLast
/-- Boxes as an argument brings them. -/
structure BoxA (w : World) (A : Option Addr) (c : Nat) (bs : List X.S44) : Prop where
 row : Kd.C X.k44 w A bs.length bs
 cap : bs.length ≤ c
 len : bs.length ≤ 9223372036854775807
 marks : ∀ b ∈ bs, b.f0.size ≤ 9223372036854775807
 lots : ∀ b ∈ bs, ∀ x ∈ b.f2, x.f0.size ≤ 9223372036854775807 ∧ -9223372036854775808 ≤ x.f1 ∧ x.f1 ≤ 9223372036854775807
theorem BoxA.below {w w' : World} {A : Option Addr} {c : Nat} {bs : List X.S44} (h : BoxA w A c bs) (hb : Below w.heap.size w w') : BoxA w' A c bs := ⟨Kd.C_below h.row hb, h.cap, h.len, h.marks, h.lots⟩
theorem boxes_any {w : World} {A : Option Addr} {c : Nat} {bs : List X.S44} (h : BoxA w A c bs) :
  Calls Tryz.prog 30 #[.slice A bs.length c] w fun e w' => e = .returned (.bool (boxesL bs)) ∧ Below w.heap.size w w' :=
 (X.supercargolaw12_boxes.calls (bs.length + 14) A c bs _ w h.row h.cap (boxes_f bs h.len _ (by omega))).mono fun _ _ ⟨e, d⟩ => ⟨e, d.below⟩
/-- Goods as an argument brings them. -/
structure GoodA (w : World) (A : Option Addr) (c : Nat) (gs : List X.S30) : Prop where
 row : Kd.C X.k30 w A gs.length gs
 cap : gs.length ≤ c
 size : ∀ x ∈ gs, x.f0.size ≤ 9223372036854775807
theorem GoodA.below {w w' : World} {A : Option Addr} {c : Nat} {gs : List X.S30} (h : GoodA w A c gs) (hb : Below w.heap.size w w') : GoodA w' A c gs := ⟨Kd.C_below h.row hb, h.cap, h.size⟩
/-- Lots as an argument brings them. -/
structure LotA (w : World) (A : Option Addr) (c : Nat) (l : List X.S55) : Prop where
 row : Kd.C X.k55 w A l.length l
 cap : l.length ≤ c
 lots : ∀ x ∈ l, x.f0.size ≤ 9223372036854775807 ∧ -9223372036854775808 ≤ x.f1 ∧ x.f1 ≤ 9223372036854775807
theorem LotA.below {w w' : World} {A : Option Addr} {c : Nat} {l : List X.S55} (h : LotA w A c l) (hb : Below w.heap.size w w') : LotA w' A c l := ⟨Kd.C_below h.row hb, h.cap, h.lots⟩
theorem few_any {w : World} {A A' : Option Addr} {c c' : Nat} {gs : List X.S30} {l : List X.S55} (hg : GoodA w A c gs) (hl : LotA w A' c' l) :
  Calls Tryz.prog 24 #[.slice A gs.length c, .slice A' l.length c'] w fun e w' => e = .returned (.bool (fewG gs l)) ∧ Below w.heap.size w w' :=
 (X.supercargolaw12_few.calls 20 A c gs A' c' l _ w hg.row hg.cap hl.row hl.cap (fewG_f gs l 20 (by omega))).mono fun _ _ ⟨e, d⟩ => ⟨e, d.below⟩
/-- A table as the laws ask for it. -/
def TabPost (gs : List X.S30) (v : Value) (w' : World) : Prop := if newB gs = 0 then ∃ t, v = .pointer (some ⟨t, 0, none⟩) ∧ TabIn w' t gs else v = .pointer none
theorem tab_any {w : World} {A : Option Addr} {c : Nat} {gs : List X.S30} (hg : GoodA w A c gs) (hn : gs.length ≤ 12) :
  Calls Tryz.prog 25 #[.slice A gs.length c] w fun e w' => ∃ v, e = .returned v ∧ TabPost gs v w' ∧ Below w.heap.size w w' := by
 refine (table_any A c gs w hg.row (by omega) hg.size).mono fun e w' ⟨v, he, hp, hb⟩ => ⟨v, he, ?_, hb⟩
 unfold NewPost at hp
 unfold TabPost
 split
 ·rename_i h
  rw [if_pos h] at hp
  obtain ⟨t, h1, _, h2⟩ := hp
  exact ⟨t, h1, h2⟩
 ·rename_i h
  rw [if_neg h] at hp
  exact hp
theorem fewG_parts {gs : List X.S30} {l : List X.S55} (h : fewG gs l = true) : gs.length ≤ 12 ∧ l.length ≤ 12 ∧ fewL l = true := by
 unfold fewG at h
 simp only [Bool.and_eq_true, decide_eq_true_eq] at h
 exact ⟨h.1.1, h.1.2, h.2⟩
end Go.Proofs.YtfflbeenkfaemaaGreatDoor.Ext
