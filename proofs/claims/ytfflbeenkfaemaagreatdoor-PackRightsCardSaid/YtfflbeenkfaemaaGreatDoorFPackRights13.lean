/- One of the texts of this claim: Xx11, RefA, RefK. -/
import Derived.Test.YtfflbeenkfaemaaGreatDoorFPackRights12
namespace Go.Proofs.YtfflbeenkfaemaaGreatDoor.X
open Go.RowKit Go.Proofs.YtfflbeenkfaemaaGreatDoor.Ext Go.Proofs.YtfflbeenkfaemaaGreatDoorW.PrintWords Go.Proofs.YtfflbeenkfaemaaGreatDoorW.PrintLast Go.Proofs.YtfflbeenkfaemaaGreatDoorW.PrintMore
attribute [local go_sem] max2_int min2_int max_two min_two max_three min_three max_four min_four   -- for this text's walks alone
set_option linter.unusedVariables false
set_option linter.unusedSimpArgs false
def supercargoref03_Right.f (k : Nat) (a0 : ByteArray) : Option (Bool) := if (a0.size : Int) = 12 then ((supercargoref03_head.f k a0).bind fun t270 => (if t270 = true then (if 10 < (a0.size : Int) then ((supercargoref03_digit.f (bt a0 10)).bind fun t271 => (if t271 = true then (if 11 < (a0.size : Int) then ((supercargoref03_digit.f (bt a0 11)).bind fun t272 => (if t272 = true then ((supercargoref03_Sum.f k a0).bind fun t273 => (some (t273 == (wrap64 ((wrap64 ((wrap64 (10 * (wrap64 ((wrap64 (bt a0 10)) - 48)))) + (wrap64 (bt a0 11)))) - 48))))) else (some false))) else (none)) else (some false))) else (none)) else (some false))) else (some false)
theorem supercargoref03_Right.mono : ∀ a0 k, LeO (supercargoref03_Right.f k a0) (supercargoref03_Right.f (k + 1) a0) := by
 intro a0 k
 unfold supercargoref03_Right.f
 repeat' first
   | (with_reducible exact supercargoref03_Sum.mono _ _)
   | (with_reducible exact supercargoref03_head.mono _ _)
   | (with_reducible exact LeO.refl _)
   | (with_reducible exact LeO.none _)
   | (with_reducible refine LeO.ite ?_ ?_)
   | (with_reducible refine LeO.bind ?_ (fun _ => ?_))
   | exact supercargoref03_Sum.mono _ _
   | exact supercargoref03_head.mono _ _
   | exact LeO.none _
   | refine LeO.ite ?_ ?_
   | refine LeO.bind ?_ (fun _ => ?_)
def supercargoref03_Right.T1 : Bool × List (List Nat × List Nat) := (true, [([], []), ([0], [0]), ([1], [1]), ([2], [2]), ([3], [3]), ([4, 3, 3], [3, 4]), ([3, 5], [3, 5]), ([6, 5], [6]), ([7], [7]), ([8, 7], [7, 8]), ([9, 7, 7], [7, 9]), ([7, 10], [7, 10]), ([11, 10], [11]), ([12], [12]), ([13, 12], [12, 13]), ([14, 12, 12], [12, 14]), ([12, 15], [12, 15]), ([16, 15], [16]), ([17], [17]), ([18, 17, 17], [17, 18]), ([17], [17]), ([20, 17], [17, 20]), ([21, 17], [17, 21]), ([22, 17], [17, 22]), ([23, 17], [17, 23]), ([17], [17]), ([25, 17], [17, 25]), ([26, 17], [17, 26]), ([24, 27, 17], [17, 24, 27]), ([28, 17], [17, 28]), ([19, 29, 17], [17, 19, 29]), ([17, 30], [17, 30]), ([31, 19, 0, 1, 2, 3, 4, 5, 6, 7, 8, 9, 10, 11, 12, 13, 14, 15, 16, 17, 18, 19, 20, 21, 22, 23, 24, 25, 26, 27, 28, 29, 30, 31], [31])])
def supercargoref03_Right.B1 : List Nat := [0, 1, 3, 7, 15, 31, 63, 127, 255, 511, 1023, 2047, 4095, 8191, 16383, 32767, 65535, 131071, 262143, 524287, 262143, 1310719, 3407871, 7602175, 15990783, 262143, 33816575, 100925439, 267649023, 536084479, 1073741823, 2147483647, 4294967295]
theorem supercargoref03_Right.tab1 : rtab .any (opsOf Tryz.f68 1) = supercargoref03_Right.T1 := by kernel_rfl
theorem supercargoref03_Right.bits1 : waitsOk supercargoref03_Right.T1.2 supercargoref03_Right.B1 = true := by kernel_rfl
set_option maxHeartbeats 8000000 in
set_option maxRecDepth 100000 in
theorem supercargoref03_Right.calls (k : Nat) (a0 : ByteArray) (r : Bool) (w : World) (h : supercargoref03_Right.f k a0 = some r) :
  Calls Tryz.prog 68 #[.string a0] w fun e w' => e = .returned (.bool r) ∧ Below w.heap.size w w' := by
 have HB := Aside0.mk (Below.refl w.heap.size w)
 have H : (if (a0.size : Int) = 12 then ((supercargoref03_head.f k a0).bind fun t270 => (if t270 = true then (if 10 < (a0.size : Int) then ((supercargoref03_digit.f (bt a0 10)).bind fun t271 => (if t271 = true then (if 11 < (a0.size : Int) then ((supercargoref03_digit.f (bt a0 11)).bind fun t272 => (if t272 = true then ((supercargoref03_Sum.f k a0).bind fun t273 => (some (t273 == (wrap64 ((wrap64 ((wrap64 (10 * (wrap64 ((wrap64 (bt a0 10)) - 48)))) + (wrap64 (bt a0 11)))) - 48))))) else (some false))) else (none)) else (some false))) else (none)) else (some false))) else (some false)) = some r := h
 clear h
 by_cases c2 : (a0.size : Int) = 12
 ·rw [if_pos c2] at H
  have c2b0 : ((a0.size : Int) == 12) = true := beq_iff_eq.mpr c2
  have c2b1 : ((a0.size : Int) != 12) = false := bne_eq_false_iff_eq.mpr c2
  clear c2
  replace H := Option.bind_eq_some_iff.mp H
  obtain ⟨t270, A30, H⟩ := H
  replace H : (if t270 = true then (if 10 < (a0.size : Int) then ((supercargoref03_digit.f (bt a0 10)).bind fun t271 => (if t271 = true then (if 11 < (a0.size : Int) then ((supercargoref03_digit.f (bt a0 11)).bind fun t272 => (if t272 = true then ((supercargoref03_Sum.f k a0).bind fun t273 => (some (t273 == (wrap64 ((wrap64 ((wrap64 (10 * (wrap64 ((wrap64 (bt a0 10)) - 48)))) + (wrap64 (bt a0 11)))) - 48))))) else (some false))) else (none)) else (some false))) else (none)) else (some false)) = some r := H
  have A3 := Aside0.mk A30
  clear A30
  by_cases c4 : t270 = true
  ·subst c4
   have H1 : (if 10 < (a0.size : Int) then ((supercargoref03_digit.f (bt a0 10)).bind fun t271 => (if t271 = true then (if 11 < (a0.size : Int) then ((supercargoref03_digit.f (bt a0 11)).bind fun t272 => (if t272 = true then ((supercargoref03_Sum.f k a0).bind fun t273 => (some (t273 == (wrap64 ((wrap64 ((wrap64 (10 * (wrap64 ((wrap64 (bt a0 10)) - 48)))) + (wrap64 (bt a0 11)))) - 48))))) else (some false))) else (none)) else (some false))) else (none)) = some r := by rw [if_pos rfl] at H; exact H
   clear H
   have H := H1
   clear H1
   by_cases c5 : 10 < (a0.size : Int)
   ·rw [if_pos c5] at H
    have c5b0 : decide (10 < (a0.size : Int)) = true := decide_eq_true c5
    have c5b1 : decide (10 < a0.size) = true := decide_eq_true (by omega)
    clear c5
    replace H := Option.bind_eq_some_iff.mp H
    obtain ⟨t271, A70, H⟩ := H
    replace H : (if t271 = true then (if 11 < (a0.size : Int) then ((supercargoref03_digit.f (bt a0 11)).bind fun t272 => (if t272 = true then ((supercargoref03_Sum.f k a0).bind fun t273 => (some (t273 == (wrap64 ((wrap64 ((wrap64 (10 * (wrap64 ((wrap64 (bt a0 10)) - 48)))) + (wrap64 (bt a0 11)))) - 48))))) else (some false))) else (none)) else (some false)) = some r := H
    have A7 := Aside0.mk A70
    clear A70
    by_cases c8 : t271 = true
    ·subst c8
     have H1 : (if 11 < (a0.size : Int) then ((supercargoref03_digit.f (bt a0 11)).bind fun t272 => (if t272 = true then ((supercargoref03_Sum.f k a0).bind fun t273 => (some (t273 == (wrap64 ((wrap64 ((wrap64 (10 * (wrap64 ((wrap64 (bt a0 10)) - 48)))) + (wrap64 (bt a0 11)))) - 48))))) else (some false))) else (none)) = some r := by rw [if_pos rfl] at H; exact H
     clear H
     have H := H1
     clear H1
     by_cases c9 : 11 < (a0.size : Int)
     ·rw [if_pos c9] at H
      have c9b0 : decide (11 < (a0.size : Int)) = true := decide_eq_true c9
      have c9b1 : decide (11 < a0.size) = true := decide_eq_true (by omega)
      clear c9
      replace H := Option.bind_eq_some_iff.mp H
      obtain ⟨t272, A110, H⟩ := H
      replace H : (if t272 = true then ((supercargoref03_Sum.f k a0).bind fun t273 => (some (t273 == (wrap64 ((wrap64 ((wrap64 (10 * (wrap64 ((wrap64 (bt a0 10)) - 48)))) + (wrap64 (bt a0 11)))) - 48))))) else (some false)) = some r := H
      have A11 := Aside0.mk A110
      clear A110
      by_cases c12 : t272 = true
      ·subst c12
       have H1 : ((supercargoref03_Sum.f k a0).bind fun t273 => (some (t273 == (wrap64 ((wrap64 ((wrap64 (10 * (wrap64 ((wrap64 (bt a0 10)) - 48)))) + (wrap64 (bt a0 11)))) - 48))))) = some r := by rw [if_pos rfl] at H; exact H
       clear H
       have H := H1
       clear H1
       replace H := Option.bind_eq_some_iff.mp H
       obtain ⟨t273, A130, H⟩ := H
       replace H : (some (t273 == (wrap64 ((wrap64 ((wrap64 (10 * (wrap64 ((wrap64 (bt a0 10)) - 48)))) + (wrap64 (bt a0 11)))) - 48)))) = some r := H
       have A13 := Aside0.mk A130
       clear A130
       obtain rfl := Option.some.inj H
       go_enter Tryz.func68, Tryz.ntmps68
       try go_wp2
       have n0_ := Aside0.mk (below_drew1 HB.out)
       clear HB
       have HB := n0_
       clear n0_
       refine start_ (n := 33) (S := fun w' => True) (ds := []) (bA 33 0) (by kernel_rfl) rfl rfl trivial (fun hHeld => ?_); refine with_tabW supercargoref03_Right.tab1 supercargoref03_Right.bits1 (fun HT_ HW_ => ?_)
       generalize w.drew = w16 at HB hHeld ⊢
       refine pure_ (i := 0) (N := some 3) (v := ?_) (a' := ?_) (bA 33 1) rfl rfl (any_of HT_.out (by kernel_rfl)) (fun _ _ _ h => h) (Or.inl ⟨by rfl, ?_⟩) ?_ ?_
       rotate_left
       ·intro w'
        go_simp
        with_reducible rfl
       rotate_left
       ·simp only [Act.put, List.setIfInBounds_toArray, List.set_cons_zero, List.set_cons_succ, i64_w, i32_w]
        rfl
       refine pure_ (i := 1) (N := some 4) (v := ?_) (a' := ?_) (bA 33 3) rfl rfl (any_of HT_.out (by kernel_rfl)) (fun _ _ _ h => h) (Or.inl ⟨by rfl, ?_⟩) ?_ ?_
       rotate_left
       ·intro w'
        go_simp
        with_reducible rfl
       rotate_left
       ·simp only [Act.put, List.setIfInBounds_toArray, List.set_cons_zero, List.set_cons_succ, i64_w, i32_w]
        rfl
       refine pure_ (i := 2) (N := some 5) (v := ?_) (a' := ?_) (bA 33 7) rfl rfl (any_of HT_.out (by kernel_rfl)) (fun _ _ _ h => h) (Or.inl ⟨by rfl, ?_⟩) ?_ ?_
       rotate_left
       ·intro w'
        go_simp
        with_reducible rfl
       rotate_left
       ·simp only [Act.put, List.setIfInBounds_toArray, List.set_cons_zero, List.set_cons_succ, i64_w, i32_w]
        rfl
       refine pure_ (i := 3) (N := some 6) (v := ?_) (a' := ?_) (bA 33 15) rfl rfl (any_of HT_.out (by kernel_rfl)) (fun _ _ _ h => h) (Or.inl ⟨by rfl, ?_⟩) ?_ ?_
       rotate_left
       ·intro w'
        go_simp
        with_reducible rfl
       rotate_left
       ·simp only [Act.put, List.setIfInBounds_toArray, List.set_cons_zero, List.set_cons_succ, i64_w, i32_w]
        rfl
       refine pure_ (i := 4) (N := some 7) (v := ?_) (a' := ?_) (bA 33 31) rfl rfl (any_of HT_.out (by kernel_rfl)) (fun _ _ _ h => h) (Or.inl ⟨by rfl, ?_⟩) ?_ ?_
       rotate_left
       ·intro w'
        go_simp
        with_reducible rfl
       rotate_left
       ·simp only [Act.put, List.setIfInBounds_toArray, List.set_cons_zero, List.set_cons_succ, i64_w, i32_w]
        rfl
       refine one_ (i := 5) (N := some 8) (bA 33 63) rfl rfl (one_of HT_.out (by kernel_rfl)) (by decide) (fun K hK => ?_)
       refine goes_ Tryz.func101 (by kernel_rfl) rfl #[.string a0] (by rfl) rfl rfl (by (try simp only [List.map_toArray, List.map_cons, List.map_nil]); first | done | rfl | (simp only [List.length_drop, List.length_take]; rfl)) ?_
       with_reducible refine (supercargoref03_head.calls k a0 true _ A3.out).mono ?_
       rintro e w' ⟨rfl, ⟨nd, rfl⟩⟩
       refine ⟨_, rfl, ?_⟩
       have p6 : 0 ≤ (10 : Int) := (by omega)
       have q6 : 10 < a0.size := (by have : (10 : Int) < (a0.size : Int) := of_decide_eq_true (by first | (with_reducible assumption) | assumption); omega)
       have hx6 : ∀ h : 10 < a0.size, ((a0[10]'h).toNat : Int) = bt a0 10 := bt_at a0 10
       clear p6
       have qi6 : (10 < (a0.size : Int)) = True := eq_true (of_decide_eq_true (by first | (with_reducible assumption) | assumption))
       replace q6 := eq_true q6
       refine hK.out _ _ trivial (fun hHeld => ?_)
       clear hK K
       refine norm_ (a' := ?_) ?_ ?_
       rotate_left
       ·show Act.put _ (some 8) _ = _
        simp only [Act.put, List.setIfInBounds_toArray, List.set_cons_zero, List.set_cons_succ, i64_w, i32_w]
        rfl
       refine pure_ (i := 6) (N := some 9) (v := ?_) (a' := ?_) (bA 33 127) rfl rfl (any_of HT_.out (by kernel_rfl)) (fun _ _ _ h => h) (Or.inl ⟨by rfl, ?_⟩) ?_ ?_
       rotate_left
       ·intro w'
        go_simp
        with_reducible rfl
       rotate_left
       ·simp only [Act.put, List.setIfInBounds_toArray, List.set_cons_zero, List.set_cons_succ, i64_w, i32_w]
        rfl
       refine pure_ (i := 7) (N := some 10) (v := ?_) (a' := ?_) (bA 33 255) rfl rfl (any_of HT_.out (by kernel_rfl)) (fun _ _ _ h => h) (Or.inl ⟨by rfl, ?_⟩) ?_ ?_
       rotate_left
       ·intro w'
        go_simp
        with_reducible rfl
       rotate_left
       ·simp only [Act.put, List.setIfInBounds_toArray, List.set_cons_zero, List.set_cons_succ, i64_w, i32_w]
        rfl
       refine pure_ (i := 8) (N := some 11) (v := ?_) (a' := ?_) (bA 33 511) rfl rfl (any_of HT_.out (by kernel_rfl)) (fun _ _ _ h => h) (Or.inl ⟨by rfl, ?_⟩) ?_ ?_
       rotate_left
       ·intro w'
        go_simp
        with_reducible rfl
       rotate_left
       ·simp only [Act.put, List.setIfInBounds_toArray, List.set_cons_zero, List.set_cons_succ, i64_w, i32_w]
        rfl
       refine take_ (i := 9) (N := some 12) (v := ?_) (a' := ?_) (bA 33 1023) rfl rfl (take_ofW HT_.out HW_.out (by kernel_rfl)) (fun _ _ _ h => h) (Or.inl ⟨by rfl, ?_⟩) hHeld ?_ ?_
       rotate_left
       ·intro w' _
        go_simp
        with_reducible rfl
       rotate_left
       ·simp only [Act.put, List.setIfInBounds_toArray, List.set_cons_zero, List.set_cons_succ, i64_w, i32_w]
        rfl
       refine one_ (i := 10) (N := some 13) (bA 33 2047) rfl rfl (one_of HT_.out (by kernel_rfl)) (by decide) (fun K hK => ?_)
       refine goes_ Tryz.func102 (by kernel_rfl) rfl #[.int .u8 (bt a0 10)] (by rfl) rfl rfl (by (try simp only [List.map_toArray, List.map_cons, List.map_nil]); first | done | rfl | (simp only [List.length_drop, List.length_take]; rfl)) ?_
       with_reducible refine (supercargoref03_digit.calls (bt a0 10) true _ A7.out).mono ?_
       rintro e w' ⟨rfl, ⟨nd, rfl⟩⟩
       refine ⟨_, rfl, ?_⟩
       have p10 : 0 ≤ (11 : Int) := (by omega)
       have q10 : 11 < a0.size := (by have : (11 : Int) < (a0.size : Int) := of_decide_eq_true (by first | (with_reducible assumption) | assumption); omega)
       have hx10 : ∀ h : 11 < a0.size, ((a0[11]'h).toNat : Int) = bt a0 11 := bt_at a0 11
       clear p10
       have qi10 : (11 < (a0.size : Int)) = True := eq_true (of_decide_eq_true (by first | (with_reducible assumption) | assumption))
       replace q10 := eq_true q10
       refine hK.out _ _ trivial (fun hHeld => ?_)
       clear hK K
       refine norm_ (a' := ?_) ?_ ?_
       rotate_left
       ·show Act.put _ (some 13) _ = _
        simp only [Act.put, List.setIfInBounds_toArray, List.set_cons_zero, List.set_cons_succ, i64_w, i32_w]
        rfl
       refine pure_ (i := 11) (N := some 14) (v := ?_) (a' := ?_) (bA 33 4095) rfl rfl (any_of HT_.out (by kernel_rfl)) (fun _ _ _ h => h) (Or.inl ⟨by rfl, ?_⟩) ?_ ?_
       rotate_left
       ·intro w'
        go_simp
        with_reducible rfl
       rotate_left
       ·simp only [Act.put, List.setIfInBounds_toArray, List.set_cons_zero, List.set_cons_succ, i64_w, i32_w]
        rfl
       refine pure_ (i := 12) (N := some 15) (v := ?_) (a' := ?_) (bA 33 8191) rfl rfl (any_of HT_.out (by kernel_rfl)) (fun _ _ _ h => h) (Or.inl ⟨by rfl, ?_⟩) ?_ ?_
       rotate_left
       ·intro w'
        go_simp
        with_reducible rfl
       rotate_left
       ·simp only [Act.put, List.setIfInBounds_toArray, List.set_cons_zero, List.set_cons_succ, i64_w, i32_w]
        rfl
       refine pure_ (i := 13) (N := some 16) (v := ?_) (a' := ?_) (bA 33 16383) rfl rfl (any_of HT_.out (by kernel_rfl)) (fun _ _ _ h => h) (Or.inl ⟨by rfl, ?_⟩) ?_ ?_
       rotate_left
       ·intro w'
        go_simp
        with_reducible rfl
       rotate_left
       ·simp only [Act.put, List.setIfInBounds_toArray, List.set_cons_zero, List.set_cons_succ, i64_w, i32_w]
        rfl
       refine take_ (i := 14) (N := some 17) (v := ?_) (a' := ?_) (bA 33 32767) rfl rfl (take_ofW HT_.out HW_.out (by kernel_rfl)) (fun _ _ _ h => h) (Or.inl ⟨by rfl, ?_⟩) hHeld ?_ ?_
       rotate_left
       ·intro w' _
        go_simp
        with_reducible rfl
       rotate_left
       ·simp only [Act.put, List.setIfInBounds_toArray, List.set_cons_zero, List.set_cons_succ, i64_w, i32_w]
        rfl
       refine one_ (i := 15) (N := some 18) (bA 33 65535) rfl rfl (one_of HT_.out (by kernel_rfl)) (by decide) (fun K hK => ?_)
       refine goes_ Tryz.func102 (by kernel_rfl) rfl #[.int .u8 (bt a0 11)] (by rfl) rfl rfl (by (try simp only [List.map_toArray, List.map_cons, List.map_nil]); first | done | rfl | (simp only [List.length_drop, List.length_take]; rfl)) ?_
       with_reducible refine (supercargoref03_digit.calls (bt a0 11) true _ A11.out).mono ?_
       rintro e w' ⟨rfl, ⟨nd, rfl⟩⟩
       refine ⟨_, rfl, ?_⟩
       refine hK.out _ _ trivial (fun hHeld => ?_)
       clear hK K
       refine norm_ (a' := ?_) ?_ ?_
       rotate_left
       ·show Act.put _ (some 18) _ = _
        simp only [Act.put, List.setIfInBounds_toArray, List.set_cons_zero, List.set_cons_succ, i64_w, i32_w]
        rfl
       refine pure_ (i := 16) (N := some 19) (v := ?_) (a' := ?_) (bA 33 131071) rfl rfl (any_of HT_.out (by kernel_rfl)) (fun _ _ _ h => h) (Or.inl ⟨by rfl, ?_⟩) ?_ ?_
       rotate_left
       ·intro w'
        go_simp
        with_reducible rfl
       rotate_left
       ·simp only [Act.put, List.setIfInBounds_toArray, List.set_cons_zero, List.set_cons_succ, i64_w, i32_w]
        rfl
       refine pure_ (i := 17) (N := some 20) (v := ?_) (a' := ?_) (bA 33 262143) rfl rfl (any_of HT_.out (by kernel_rfl)) (fun _ _ _ h => h) (Or.inl ⟨by rfl, ?_⟩) ?_ ?_
       rotate_left
       ·intro w'
        go_simp
        with_reducible rfl
       rotate_left
       ·simp only [Act.put, List.setIfInBounds_toArray, List.set_cons_zero, List.set_cons_succ, i64_w, i32_w]
        rfl
       refine pure_ (i := 18) (N := some 21) (v := ?_) (a' := ?_) (bA 33 524287) rfl rfl (any_of HT_.out (by kernel_rfl)) (fun _ _ _ h => h) (Or.inl ⟨by rfl, ?_⟩) ?_ ?_
       rotate_left
       ·intro w'
        go_simp
        with_reducible rfl
       rotate_left
       ·simp only [Act.put, List.setIfInBounds_toArray, List.set_cons_zero, List.set_cons_succ, i64_w, i32_w]
        rfl
       refine pure_ (i := 20) (N := some 23) (v := ?_) (a' := ?_) (bA 33 1572863) rfl rfl (any_of HT_.out (by kernel_rfl)) (fun _ _ _ h => h) (Or.inl ⟨by rfl, ?_⟩) ?_ ?_
       rotate_left
       ·intro w'
        go_simp
        with_reducible rfl
       rotate_left
       ·simp only [Act.put, List.setIfInBounds_toArray, List.set_cons_zero, List.set_cons_succ, i64_w, i32_w]
        rfl
       refine pure_ (i := 25) (N := some 28) (v := ?_) (a' := ?_) (bA 33 35127295) rfl rfl (any_of HT_.out (by kernel_rfl)) (fun _ _ _ h => h) (Or.inl ⟨by rfl, ?_⟩) ?_ ?_
       rotate_left
       ·intro w'
        go_simp
        with_reducible rfl
       rotate_left
       ·simp only [Act.put, List.setIfInBounds_toArray, List.set_cons_zero, List.set_cons_succ, i64_w, i32_w]
        rfl
       refine take_ (i := 21) (N := some 24) (v := ?_) (a' := ?_) (bA 33 37224447) rfl rfl (take_ofW HT_.out HW_.out (by kernel_rfl)) (fun _ _ _ h => h) (Or.inl ⟨by rfl, ?_⟩) hHeld ?_ ?_
       rotate_left
       ·intro w' _
        go_simp
        with_reducible rfl
       rotate_left
       ·simp only [Act.put, List.setIfInBounds_toArray, List.set_cons_zero, List.set_cons_succ, i64_w, i32_w]
        rfl
       refine pure_ (i := 22) (N := some 25) (v := ?_) (a' := ?_) (bA 33 41418751) rfl rfl (any_of HT_.out (by kernel_rfl)) (fun _ _ _ h => h) (Or.inl ⟨by rfl, ?_⟩) ?_ ?_
       rotate_left
       ·intro w'
        go_simp
        with_reducible rfl
       rotate_left
       ·simp only [Act.put, List.setIfInBounds_toArray, List.set_cons_zero, List.set_cons_succ, i64_w, i32_w]
        rfl
       refine pure_ (i := 23) (N := some 26) (v := ?_) (a' := ?_) (bA 33 49807359) rfl rfl (any_of HT_.out (by kernel_rfl)) (fun _ _ _ h => h) (Or.inl ⟨by rfl, ?_⟩) ?_ ?_
       rotate_left
       ·intro w'
        go_simp
        with_reducible rfl
       rotate_left
       ·simp only [Act.put, List.setIfInBounds_toArray, List.set_cons_zero, List.set_cons_succ, i64_w, i32_w]
        rfl
       refine pure_ (i := 24) (N := some 27) (v := ?_) (a' := ?_) (bA 33 66584575) rfl rfl (any_of HT_.out (by kernel_rfl)) (fun _ _ _ h => h) (Or.inl ⟨by rfl, ?_⟩) ?_ ?_
       rotate_left
       ·intro w'
        go_simp
        with_reducible rfl
       rotate_left
       ·simp only [Act.put, List.setIfInBounds_toArray, List.set_cons_zero, List.set_cons_succ, i64_w, i32_w]
        rfl
       refine take_ (i := 26) (N := some 29) (v := ?_) (a' := ?_) (bA 33 133693439) rfl rfl (take_ofW HT_.out HW_.out (by kernel_rfl)) (fun _ _ _ h => h) (Or.inl ⟨by rfl, ?_⟩) hHeld ?_ ?_
       rotate_left
       ·intro w' _
        go_simp
        with_reducible rfl
       rotate_left
       ·simp only [Act.put, List.setIfInBounds_toArray, List.set_cons_zero, List.set_cons_succ, i64_w, i32_w]
        rfl
       refine pure_ (i := 27) (N := some 30) (v := ?_) (a' := ?_) (bA 33 267911167) rfl rfl (any_of HT_.out (by kernel_rfl)) (fun _ _ _ h => h) (Or.inl ⟨by rfl, ?_⟩) ?_ ?_
       rotate_left
       ·intro w'
        go_simp
        with_reducible rfl
       rotate_left
       ·simp only [Act.put, List.setIfInBounds_toArray, List.set_cons_zero, List.set_cons_succ, i64_w, i32_w]
        rfl
       refine pure_ (i := 28) (N := some 31) (v := ?_) (a' := ?_) (bA 33 536346623) rfl rfl (any_of HT_.out (by kernel_rfl)) (fun _ _ _ h => h) (Or.inl ⟨by rfl, ?_⟩) ?_ ?_
       rotate_left
       ·intro w'
        go_simp
        with_reducible rfl
       rotate_left
       ·simp only [Act.put, List.setIfInBounds_toArray, List.set_cons_zero, List.set_cons_succ, i64_w, i32_w]
        rfl
       refine pure_ (i := 29) (N := some 32) (v := ?_) (a' := ?_) (bA 33 1073217535) rfl rfl (any_of HT_.out (by kernel_rfl)) (fun _ _ _ h => h) (Or.inl ⟨by rfl, ?_⟩) ?_ ?_
       rotate_left
       ·intro w'
        go_simp
        with_reducible rfl
       rotate_left
       ·simp only [Act.put, List.setIfInBounds_toArray, List.set_cons_zero, List.set_cons_succ, i64_w, i32_w]
        rfl
       refine one_ (i := 19) (N := some 22) (bA 33 1073741823) rfl rfl (one_of HT_.out (by kernel_rfl)) (by decide) (fun K hK => ?_)
       refine goes_ Tryz.func103 (by kernel_rfl) rfl #[.string a0] (by rfl) rfl rfl (by (try simp only [List.map_toArray, List.map_cons, List.map_nil]); first | done | rfl | (simp only [List.length_drop, List.length_take]; rfl)) ?_
       with_reducible refine (supercargoref03_Sum.calls k a0 t273 _ A13.out).mono ?_
       rintro e w' ⟨rfl, ⟨nd, rfl⟩⟩
       refine ⟨_, rfl, ?_⟩
       have p14 : 0 ≤ (10 : Int) := (by omega)
       have q14 : 10 < a0.size := (by have : (10 : Int) < (a0.size : Int) := of_decide_eq_true (by first | (with_reducible assumption) | assumption); omega)
       have hx14 : ∀ h : 10 < a0.size, ((a0[10]'h).toNat : Int) = bt a0 10 := bt_at a0 10
       clear p14
       have qi14 : (10 < (a0.size : Int)) = True := eq_true (of_decide_eq_true (by first | (with_reducible assumption) | assumption))
       replace q14 := eq_true q14
       have p15 : 0 ≤ (11 : Int) := (by omega)
       have q15 : 11 < a0.size := (by have : (11 : Int) < (a0.size : Int) := of_decide_eq_true (by first | (with_reducible assumption) | assumption); omega)
       have hx15 : ∀ h : 11 < a0.size, ((a0[11]'h).toNat : Int) = bt a0 11 := bt_at a0 11
       clear p15
       have qi15 : (11 < (a0.size : Int)) = True := eq_true (of_decide_eq_true (by first | (with_reducible assumption) | assumption))
       replace q15 := eq_true q15
       refine hK.out _ _ trivial (fun hHeld => ?_)
       clear hK K
       refine norm_ (a' := ?_) ?_ ?_
       rotate_left
       ·show Act.put _ (some 22) _ = _
        simp only [Act.put, List.setIfInBounds_toArray, List.set_cons_zero, List.set_cons_succ, i64_w, i32_w]
        rfl
       refine pure_ (i := 30) (N := some 33) (v := ?_) (a' := ?_) (bA 33 2147483647) rfl rfl (any_of HT_.out (by kernel_rfl)) (fun _ _ _ h => h) (Or.inl ⟨by rfl, ?_⟩) ?_ ?_
       rotate_left
       ·intro w'
        go_simp
        with_reducible rfl
       rotate_left
       ·simp only [Act.put, List.setIfInBounds_toArray, List.set_cons_zero, List.set_cons_succ, i64_w, i32_w]
        rfl
       refine pure_ (i := 31) (N := some 34) (v := ?_) (a' := ?_) (bA 33 4294967295) rfl rfl (any_of HT_.out (by kernel_rfl)) (fun _ _ _ h => h) (Or.inl ⟨by rfl, ?_⟩) ?_ ?_
       rotate_left
       ·intro w'
        go_simp
        with_reducible rfl
       rotate_left
       ·simp only [Act.put, List.setIfInBounds_toArray, List.set_cons_zero, List.set_cons_succ, i64_w, i32_w]
        rfl
       refine pure_ (i := 32) (N := some 2) (v := ?_) (a' := ?_) (bA 33 8589934591) rfl rfl (any_of HT_.out (by kernel_rfl)) (fun _ _ _ h => h) (Or.inl ⟨by rfl, ?_⟩) ?_ ?_
       rotate_left
       ·intro w'
        go_simp
        with_reducible rfl
       rotate_left
       ·simp only [Act.put, List.setIfInBounds_toArray, List.set_cons_zero, List.set_cons_succ, i64_w, i32_w]
        rfl
       refine done_ (done_of HT_.out (by kernel_rfl)) ?_
       try go_wp2
       go_ret
       exact ⟨by first | rfl | (simp [errW_none, errW_some] <;> rfl) | (simp [*, errW_none, errW_some] <;> rfl), by repeat (first | (with_reducible first | exact HB.out | apply below_alloc | apply pw_below_drewN | apply below_drew1) | exact HB.out)⟩
      ·replace c12 := Bool.eq_false_iff.mpr c12
       subst c12
       have H1 : (some false) = some r := by rw [if_neg (show ¬ (false = true) by decide)] at H; exact H
       clear H
       have H := H1
       clear H1
       obtain rfl := Option.some.inj H
       go_enter Tryz.func68, Tryz.ntmps68
       try go_wp2
       have n0_ := Aside0.mk (below_drew1 HB.out)
       clear HB
       have HB := n0_
       clear n0_
       refine start_ (n := 33) (S := fun w' => True) (ds := []) (bA 33 0) (by kernel_rfl) rfl rfl trivial (fun hHeld => ?_); refine with_tabW supercargoref03_Right.tab1 supercargoref03_Right.bits1 (fun HT_ HW_ => ?_)
       generalize w.drew = w17 at HB hHeld ⊢
       refine pure_ (i := 0) (N := some 3) (v := ?_) (a' := ?_) (bA 33 1) rfl rfl (any_of HT_.out (by kernel_rfl)) (fun _ _ _ h => h) (Or.inl ⟨by rfl, ?_⟩) ?_ ?_
       rotate_left
       ·intro w'
        go_simp
        with_reducible rfl
       rotate_left
       ·simp only [Act.put, List.setIfInBounds_toArray, List.set_cons_zero, List.set_cons_succ, i64_w, i32_w]
        rfl
       refine pure_ (i := 1) (N := some 4) (v := ?_) (a' := ?_) (bA 33 3) rfl rfl (any_of HT_.out (by kernel_rfl)) (fun _ _ _ h => h) (Or.inl ⟨by rfl, ?_⟩) ?_ ?_
       rotate_left
       ·intro w'
        go_simp
        with_reducible rfl
       rotate_left
       ·simp only [Act.put, List.setIfInBounds_toArray, List.set_cons_zero, List.set_cons_succ, i64_w, i32_w]
        rfl
       refine pure_ (i := 2) (N := some 5) (v := ?_) (a' := ?_) (bA 33 7) rfl rfl (any_of HT_.out (by kernel_rfl)) (fun _ _ _ h => h) (Or.inl ⟨by rfl, ?_⟩) ?_ ?_
       rotate_left
       ·intro w'
        go_simp
        with_reducible rfl
       rotate_left
       ·simp only [Act.put, List.setIfInBounds_toArray, List.set_cons_zero, List.set_cons_succ, i64_w, i32_w]
        rfl
       refine pure_ (i := 3) (N := some 6) (v := ?_) (a' := ?_) (bA 33 15) rfl rfl (any_of HT_.out (by kernel_rfl)) (fun _ _ _ h => h) (Or.inl ⟨by rfl, ?_⟩) ?_ ?_
       rotate_left
       ·intro w'
        go_simp
        with_reducible rfl
       rotate_left
       ·simp only [Act.put, List.setIfInBounds_toArray, List.set_cons_zero, List.set_cons_succ, i64_w, i32_w]
        rfl
       refine pure_ (i := 4) (N := some 7) (v := ?_) (a' := ?_) (bA 33 31) rfl rfl (any_of HT_.out (by kernel_rfl)) (fun _ _ _ h => h) (Or.inl ⟨by rfl, ?_⟩) ?_ ?_
       rotate_left
       ·intro w'
        go_simp
        with_reducible rfl
       rotate_left
       ·simp only [Act.put, List.setIfInBounds_toArray, List.set_cons_zero, List.set_cons_succ, i64_w, i32_w]
        rfl
       refine one_ (i := 5) (N := some 8) (bA 33 63) rfl rfl (one_of HT_.out (by kernel_rfl)) (by decide) (fun K hK => ?_)
       refine goes_ Tryz.func101 (by kernel_rfl) rfl #[.string a0] (by rfl) rfl rfl (by (try simp only [List.map_toArray, List.map_cons, List.map_nil]); first | done | rfl | (simp only [List.length_drop, List.length_take]; rfl)) ?_
       with_reducible refine (supercargoref03_head.calls k a0 true _ A3.out).mono ?_
       rintro e w' ⟨rfl, ⟨nd, rfl⟩⟩
       refine ⟨_, rfl, ?_⟩
       have p6 : 0 ≤ (10 : Int) := (by omega)
       have q6 : 10 < a0.size := (by have : (10 : Int) < (a0.size : Int) := of_decide_eq_true (by first | (with_reducible assumption) | assumption); omega)
       have hx6 : ∀ h : 10 < a0.size, ((a0[10]'h).toNat : Int) = bt a0 10 := bt_at a0 10
       clear p6
       have qi6 : (10 < (a0.size : Int)) = True := eq_true (of_decide_eq_true (by first | (with_reducible assumption) | assumption))
       replace q6 := eq_true q6
       refine hK.out _ _ trivial (fun hHeld => ?_)
       clear hK K
       refine norm_ (a' := ?_) ?_ ?_
       rotate_left
       ·show Act.put _ (some 8) _ = _
        simp only [Act.put, List.setIfInBounds_toArray, List.set_cons_zero, List.set_cons_succ, i64_w, i32_w]
        rfl
       refine pure_ (i := 6) (N := some 9) (v := ?_) (a' := ?_) (bA 33 127) rfl rfl (any_of HT_.out (by kernel_rfl)) (fun _ _ _ h => h) (Or.inl ⟨by rfl, ?_⟩) ?_ ?_
       rotate_left
       ·intro w'
        go_simp
        with_reducible rfl
       rotate_left
       ·simp only [Act.put, List.setIfInBounds_toArray, List.set_cons_zero, List.set_cons_succ, i64_w, i32_w]
        rfl
       refine pure_ (i := 7) (N := some 10) (v := ?_) (a' := ?_) (bA 33 255) rfl rfl (any_of HT_.out (by kernel_rfl)) (fun _ _ _ h => h) (Or.inl ⟨by rfl, ?_⟩) ?_ ?_
       rotate_left
       ·intro w'
        go_simp
        with_reducible rfl
       rotate_left
       ·simp only [Act.put, List.setIfInBounds_toArray, List.set_cons_zero, List.set_cons_succ, i64_w, i32_w]
        rfl
       refine pure_ (i := 8) (N := some 11) (v := ?_) (a' := ?_) (bA 33 511) rfl rfl (any_of HT_.out (by kernel_rfl)) (fun _ _ _ h => h) (Or.inl ⟨by rfl, ?_⟩) ?_ ?_
       rotate_left
       ·intro w'
        go_simp
        with_reducible rfl
       rotate_left
       ·simp only [Act.put, List.setIfInBounds_toArray, List.set_cons_zero, List.set_cons_succ, i64_w, i32_w]
        rfl
       refine take_ (i := 9) (N := some 12) (v := ?_) (a' := ?_) (bA 33 1023) rfl rfl (take_ofW HT_.out HW_.out (by kernel_rfl)) (fun _ _ _ h => h) (Or.inl ⟨by rfl, ?_⟩) hHeld ?_ ?_
       rotate_left
       ·intro w' _
        go_simp
        with_reducible rfl
       rotate_left
       ·simp only [Act.put, List.setIfInBounds_toArray, List.set_cons_zero, List.set_cons_succ, i64_w, i32_w]
        rfl
       refine one_ (i := 10) (N := some 13) (bA 33 2047) rfl rfl (one_of HT_.out (by kernel_rfl)) (by decide) (fun K hK => ?_)
       refine goes_ Tryz.func102 (by kernel_rfl) rfl #[.int .u8 (bt a0 10)] (by rfl) rfl rfl (by (try simp only [List.map_toArray, List.map_cons, List.map_nil]); first | done | rfl | (simp only [List.length_drop, List.length_take]; rfl)) ?_
       with_reducible refine (supercargoref03_digit.calls (bt a0 10) true _ A7.out).mono ?_
       rintro e w' ⟨rfl, ⟨nd, rfl⟩⟩
       refine ⟨_, rfl, ?_⟩
       have p10 : 0 ≤ (11 : Int) := (by omega)
       have q10 : 11 < a0.size := (by have : (11 : Int) < (a0.size : Int) := of_decide_eq_true (by first | (with_reducible assumption) | assumption); omega)
       have hx10 : ∀ h : 11 < a0.size, ((a0[11]'h).toNat : Int) = bt a0 11 := bt_at a0 11
       clear p10
       have qi10 : (11 < (a0.size : Int)) = True := eq_true (of_decide_eq_true (by first | (with_reducible assumption) | assumption))
       replace q10 := eq_true q10
       refine hK.out _ _ trivial (fun hHeld => ?_)
       clear hK K
       refine norm_ (a' := ?_) ?_ ?_
       rotate_left
       ·show Act.put _ (some 13) _ = _
        simp only [Act.put, List.setIfInBounds_toArray, List.set_cons_zero, List.set_cons_succ, i64_w, i32_w]
        rfl
       refine pure_ (i := 11) (N := some 14) (v := ?_) (a' := ?_) (bA 33 4095) rfl rfl (any_of HT_.out (by kernel_rfl)) (fun _ _ _ h => h) (Or.inl ⟨by rfl, ?_⟩) ?_ ?_
       rotate_left
       ·intro w'
        go_simp
        with_reducible rfl
       rotate_left
       ·simp only [Act.put, List.setIfInBounds_toArray, List.set_cons_zero, List.set_cons_succ, i64_w, i32_w]
        rfl
       refine pure_ (i := 12) (N := some 15) (v := ?_) (a' := ?_) (bA 33 8191) rfl rfl (any_of HT_.out (by kernel_rfl)) (fun _ _ _ h => h) (Or.inl ⟨by rfl, ?_⟩) ?_ ?_
       rotate_left
       ·intro w'
        go_simp
        with_reducible rfl
       rotate_left
       ·simp only [Act.put, List.setIfInBounds_toArray, List.set_cons_zero, List.set_cons_succ, i64_w, i32_w]
        rfl
       refine pure_ (i := 13) (N := some 16) (v := ?_) (a' := ?_) (bA 33 16383) rfl rfl (any_of HT_.out (by kernel_rfl)) (fun _ _ _ h => h) (Or.inl ⟨by rfl, ?_⟩) ?_ ?_
       rotate_left
       ·intro w'
        go_simp
        with_reducible rfl
       rotate_left
       ·simp only [Act.put, List.setIfInBounds_toArray, List.set_cons_zero, List.set_cons_succ, i64_w, i32_w]
        rfl
       refine take_ (i := 14) (N := some 17) (v := ?_) (a' := ?_) (bA 33 32767) rfl rfl (take_ofW HT_.out HW_.out (by kernel_rfl)) (fun _ _ _ h => h) (Or.inl ⟨by rfl, ?_⟩) hHeld ?_ ?_
       rotate_left
       ·intro w' _
        go_simp
        with_reducible rfl
       rotate_left
       ·simp only [Act.put, List.setIfInBounds_toArray, List.set_cons_zero, List.set_cons_succ, i64_w, i32_w]
        rfl
       refine one_ (i := 15) (N := some 18) (bA 33 65535) rfl rfl (one_of HT_.out (by kernel_rfl)) (by decide) (fun K hK => ?_)
       refine goes_ Tryz.func102 (by kernel_rfl) rfl #[.int .u8 (bt a0 11)] (by rfl) rfl rfl (by (try simp only [List.map_toArray, List.map_cons, List.map_nil]); first | done | rfl | (simp only [List.length_drop, List.length_take]; rfl)) ?_
       with_reducible refine (supercargoref03_digit.calls (bt a0 11) false _ A11.out).mono ?_
       rintro e w' ⟨rfl, ⟨nd, rfl⟩⟩
       refine ⟨_, rfl, ?_⟩
       refine hK.out _ _ trivial (fun hHeld => ?_)
       clear hK K
       refine norm_ (a' := ?_) ?_ ?_
       rotate_left
       ·show Act.put _ (some 18) _ = _
        simp only [Act.put, List.setIfInBounds_toArray, List.set_cons_zero, List.set_cons_succ, i64_w, i32_w]
        rfl
       refine pure_ (i := 16) (N := some 19) (v := ?_) (a' := ?_) (bA 33 131071) rfl rfl (any_of HT_.out (by kernel_rfl)) (fun _ _ _ h => h) (Or.inl ⟨by rfl, ?_⟩) ?_ ?_
       rotate_left
       ·intro w'
        go_simp
        with_reducible rfl
       rotate_left
       ·simp only [Act.put, List.setIfInBounds_toArray, List.set_cons_zero, List.set_cons_succ, i64_w, i32_w]
        rfl
       refine pure_ (i := 17) (N := some 20) (v := ?_) (a' := ?_) (bA 33 262143) rfl rfl (any_of HT_.out (by kernel_rfl)) (fun _ _ _ h => h) (Or.inl ⟨by rfl, ?_⟩) ?_ ?_
       rotate_left
       ·intro w'
        go_simp
        with_reducible rfl
       rotate_left
       ·simp only [Act.put, List.setIfInBounds_toArray, List.set_cons_zero, List.set_cons_succ, i64_w, i32_w]
        rfl
       refine pure_ (i := 18) (N := some 21) (v := undef) (a' := ?_) (bA 33 524287) rfl rfl (any_of HT_.out (by kernel_rfl)) (fun _ _ _ h => h) (Or.inr ⟨by rfl, rfl⟩) ?_ ?_
       rotate_left
       ·simp only [Act.put, List.setIfInBounds_toArray, List.set_cons_zero, List.set_cons_succ, i64_w, i32_w]
        rfl
       refine pure_ (i := 19) (N := some 22) (v := undef) (a' := ?_) (bA 33 1048575) rfl rfl (any_of HT_.out (by kernel_rfl)) (fun _ _ _ h => h) (Or.inr ⟨by rfl, rfl⟩) ?_ ?_
       rotate_left
       ·simp only [Act.put, List.setIfInBounds_toArray, List.set_cons_zero, List.set_cons_succ, i64_w, i32_w]
        rfl
       refine pure_ (i := 20) (N := some 23) (v := undef) (a' := ?_) (bA 33 2097151) rfl rfl (any_of HT_.out (by kernel_rfl)) (fun _ _ _ h => h) (Or.inr ⟨by rfl, rfl⟩) ?_ ?_
       rotate_left
       ·simp only [Act.put, List.setIfInBounds_toArray, List.set_cons_zero, List.set_cons_succ, i64_w, i32_w]
        rfl
       refine pure_ (i := 21) (N := some 24) (v := undef) (a' := ?_) (bA 33 4194303) rfl rfl (any_of HT_.out (by kernel_rfl)) (fun _ _ _ h => h) (Or.inr ⟨by rfl, rfl⟩) ?_ ?_
       rotate_left
       ·simp only [Act.put, List.setIfInBounds_toArray, List.set_cons_zero, List.set_cons_succ, i64_w, i32_w]
        rfl
       refine pure_ (i := 22) (N := some 25) (v := undef) (a' := ?_) (bA 33 8388607) rfl rfl (any_of HT_.out (by kernel_rfl)) (fun _ _ _ h => h) (Or.inr ⟨by rfl, rfl⟩) ?_ ?_
       rotate_left
       ·simp only [Act.put, List.setIfInBounds_toArray, List.set_cons_zero, List.set_cons_succ, i64_w, i32_w]
        rfl
       refine pure_ (i := 23) (N := some 26) (v := undef) (a' := ?_) (bA 33 16777215) rfl rfl (any_of HT_.out (by kernel_rfl)) (fun _ _ _ h => h) (Or.inr ⟨by rfl, rfl⟩) ?_ ?_
       rotate_left
       ·simp only [Act.put, List.setIfInBounds_toArray, List.set_cons_zero, List.set_cons_succ, i64_w, i32_w]
        rfl
       refine pure_ (i := 24) (N := some 27) (v := undef) (a' := ?_) (bA 33 33554431) rfl rfl (any_of HT_.out (by kernel_rfl)) (fun _ _ _ h => h) (Or.inr ⟨by rfl, rfl⟩) ?_ ?_
       rotate_left
       ·simp only [Act.put, List.setIfInBounds_toArray, List.set_cons_zero, List.set_cons_succ, i64_w, i32_w]
        rfl
       refine pure_ (i := 25) (N := some 28) (v := undef) (a' := ?_) (bA 33 67108863) rfl rfl (any_of HT_.out (by kernel_rfl)) (fun _ _ _ h => h) (Or.inr ⟨by rfl, rfl⟩) ?_ ?_
       rotate_left
       ·simp only [Act.put, List.setIfInBounds_toArray, List.set_cons_zero, List.set_cons_succ, i64_w, i32_w]
        rfl
       refine pure_ (i := 26) (N := some 29) (v := undef) (a' := ?_) (bA 33 134217727) rfl rfl (any_of HT_.out (by kernel_rfl)) (fun _ _ _ h => h) (Or.inr ⟨by rfl, rfl⟩) ?_ ?_
       rotate_left
       ·simp only [Act.put, List.setIfInBounds_toArray, List.set_cons_zero, List.set_cons_succ, i64_w, i32_w]
        rfl
       refine pure_ (i := 27) (N := some 30) (v := undef) (a' := ?_) (bA 33 268435455) rfl rfl (any_of HT_.out (by kernel_rfl)) (fun _ _ _ h => h) (Or.inr ⟨by rfl, rfl⟩) ?_ ?_
       rotate_left
       ·simp only [Act.put, List.setIfInBounds_toArray, List.set_cons_zero, List.set_cons_succ, i64_w, i32_w]
        rfl
       refine pure_ (i := 28) (N := some 31) (v := undef) (a' := ?_) (bA 33 536870911) rfl rfl (any_of HT_.out (by kernel_rfl)) (fun _ _ _ h => h) (Or.inr ⟨by rfl, rfl⟩) ?_ ?_
       rotate_left
       ·simp only [Act.put, List.setIfInBounds_toArray, List.set_cons_zero, List.set_cons_succ, i64_w, i32_w]
        rfl
       refine pure_ (i := 29) (N := some 32) (v := undef) (a' := ?_) (bA 33 1073741823) rfl rfl (any_of HT_.out (by kernel_rfl)) (fun _ _ _ h => h) (Or.inr ⟨by rfl, rfl⟩) ?_ ?_
       rotate_left
       ·simp only [Act.put, List.setIfInBounds_toArray, List.set_cons_zero, List.set_cons_succ, i64_w, i32_w]
        rfl
       refine pure_ (i := 30) (N := some 33) (v := undef) (a' := ?_) (bA 33 2147483647) rfl rfl (any_of HT_.out (by kernel_rfl)) (fun _ _ _ h => h) (Or.inr ⟨by rfl, rfl⟩) ?_ ?_
       rotate_left
       ·simp only [Act.put, List.setIfInBounds_toArray, List.set_cons_zero, List.set_cons_succ, i64_w, i32_w]
        rfl
       refine pure_ (i := 31) (N := some 34) (v := ?_) (a' := ?_) (bA 33 4294967295) rfl rfl (any_of HT_.out (by kernel_rfl)) (fun _ _ _ h => h) (Or.inl ⟨by rfl, ?_⟩) ?_ ?_
       rotate_left
       ·intro w'
        go_simp
        with_reducible rfl
       rotate_left
       ·simp only [Act.put, List.setIfInBounds_toArray, List.set_cons_zero, List.set_cons_succ, i64_w, i32_w]
        rfl
       refine pure_ (i := 32) (N := some 2) (v := ?_) (a' := ?_) (bA 33 8589934591) rfl rfl (any_of HT_.out (by kernel_rfl)) (fun _ _ _ h => h) (Or.inl ⟨by rfl, ?_⟩) ?_ ?_
       rotate_left
       ·intro w'
        go_simp
        with_reducible rfl
       rotate_left
       ·simp only [Act.put, List.setIfInBounds_toArray, List.set_cons_zero, List.set_cons_succ, i64_w, i32_w]
        rfl
       refine done_ (done_of HT_.out (by kernel_rfl)) ?_
       try go_wp2
       go_ret
       exact ⟨by first | rfl | (simp [errW_none, errW_some] <;> rfl) | (simp [*, errW_none, errW_some] <;> rfl), by repeat (first | (with_reducible first | exact HB.out | apply below_alloc | apply pw_below_drewN | apply below_drew1) | exact HB.out)⟩
     ·rw [if_neg c9] at H
      exact absurd H (by simp)
    ·replace c8 := Bool.eq_false_iff.mpr c8
     subst c8
     have H1 : (some false) = some r := by rw [if_neg (show ¬ (false = true) by decide)] at H; exact H
     clear H
     have H := H1
     clear H1
     obtain rfl := Option.some.inj H
     go_enter Tryz.func68, Tryz.ntmps68
     try go_wp2
     have n0_ := Aside0.mk (below_drew1 HB.out)
     clear HB
     have HB := n0_
     clear n0_
     refine start_ (n := 33) (S := fun w' => True) (ds := []) (bA 33 0) (by kernel_rfl) rfl rfl trivial (fun hHeld => ?_); refine with_tabW supercargoref03_Right.tab1 supercargoref03_Right.bits1 (fun HT_ HW_ => ?_)
     generalize w.drew = w18 at HB hHeld ⊢
     refine pure_ (i := 0) (N := some 3) (v := ?_) (a' := ?_) (bA 33 1) rfl rfl (any_of HT_.out (by kernel_rfl)) (fun _ _ _ h => h) (Or.inl ⟨by rfl, ?_⟩) ?_ ?_
     rotate_left
     ·intro w'
      go_simp
      with_reducible rfl
     rotate_left
     ·simp only [Act.put, List.setIfInBounds_toArray, List.set_cons_zero, List.set_cons_succ, i64_w, i32_w]
      rfl
     refine pure_ (i := 1) (N := some 4) (v := ?_) (a' := ?_) (bA 33 3) rfl rfl (any_of HT_.out (by kernel_rfl)) (fun _ _ _ h => h) (Or.inl ⟨by rfl, ?_⟩) ?_ ?_
     rotate_left
     ·intro w'
      go_simp
      with_reducible rfl
     rotate_left
     ·simp only [Act.put, List.setIfInBounds_toArray, List.set_cons_zero, List.set_cons_succ, i64_w, i32_w]
      rfl
     refine pure_ (i := 2) (N := some 5) (v := ?_) (a' := ?_) (bA 33 7) rfl rfl (any_of HT_.out (by kernel_rfl)) (fun _ _ _ h => h) (Or.inl ⟨by rfl, ?_⟩) ?_ ?_
     rotate_left
     ·intro w'
      go_simp
      with_reducible rfl
     rotate_left
     ·simp only [Act.put, List.setIfInBounds_toArray, List.set_cons_zero, List.set_cons_succ, i64_w, i32_w]
      rfl
     refine pure_ (i := 3) (N := some 6) (v := ?_) (a' := ?_) (bA 33 15) rfl rfl (any_of HT_.out (by kernel_rfl)) (fun _ _ _ h => h) (Or.inl ⟨by rfl, ?_⟩) ?_ ?_
     rotate_left
     ·intro w'
      go_simp
      with_reducible rfl
     rotate_left
     ·simp only [Act.put, List.setIfInBounds_toArray, List.set_cons_zero, List.set_cons_succ, i64_w, i32_w]
      rfl
     refine pure_ (i := 4) (N := some 7) (v := ?_) (a' := ?_) (bA 33 31) rfl rfl (any_of HT_.out (by kernel_rfl)) (fun _ _ _ h => h) (Or.inl ⟨by rfl, ?_⟩) ?_ ?_
     rotate_left
     ·intro w'
      go_simp
      with_reducible rfl
     rotate_left
     ·simp only [Act.put, List.setIfInBounds_toArray, List.set_cons_zero, List.set_cons_succ, i64_w, i32_w]
      rfl
     refine one_ (i := 5) (N := some 8) (bA 33 63) rfl rfl (one_of HT_.out (by kernel_rfl)) (by decide) (fun K hK => ?_)
     refine goes_ Tryz.func101 (by kernel_rfl) rfl #[.string a0] (by rfl) rfl rfl (by (try simp only [List.map_toArray, List.map_cons, List.map_nil]); first | done | rfl | (simp only [List.length_drop, List.length_take]; rfl)) ?_
     with_reducible refine (supercargoref03_head.calls k a0 true _ A3.out).mono ?_
     rintro e w' ⟨rfl, ⟨nd, rfl⟩⟩
     refine ⟨_, rfl, ?_⟩
     have p6 : 0 ≤ (10 : Int) := (by omega)
     have q6 : 10 < a0.size := (by have : (10 : Int) < (a0.size : Int) := of_decide_eq_true (by first | (with_reducible assumption) | assumption); omega)
     have hx6 : ∀ h : 10 < a0.size, ((a0[10]'h).toNat : Int) = bt a0 10 := bt_at a0 10
     clear p6
     have qi6 : (10 < (a0.size : Int)) = True := eq_true (of_decide_eq_true (by first | (with_reducible assumption) | assumption))
     replace q6 := eq_true q6
     refine hK.out _ _ trivial (fun hHeld => ?_)
     clear hK K
     refine norm_ (a' := ?_) ?_ ?_
     rotate_left
     ·show Act.put _ (some 8) _ = _
      simp only [Act.put, List.setIfInBounds_toArray, List.set_cons_zero, List.set_cons_succ, i64_w, i32_w]
      rfl
     refine pure_ (i := 6) (N := some 9) (v := ?_) (a' := ?_) (bA 33 127) rfl rfl (any_of HT_.out (by kernel_rfl)) (fun _ _ _ h => h) (Or.inl ⟨by rfl, ?_⟩) ?_ ?_
     rotate_left
     ·intro w'
      go_simp
      with_reducible rfl
     rotate_left
     ·simp only [Act.put, List.setIfInBounds_toArray, List.set_cons_zero, List.set_cons_succ, i64_w, i32_w]
      rfl
     refine pure_ (i := 7) (N := some 10) (v := ?_) (a' := ?_) (bA 33 255) rfl rfl (any_of HT_.out (by kernel_rfl)) (fun _ _ _ h => h) (Or.inl ⟨by rfl, ?_⟩) ?_ ?_
     rotate_left
     ·intro w'
      go_simp
      with_reducible rfl
     rotate_left
     ·simp only [Act.put, List.setIfInBounds_toArray, List.set_cons_zero, List.set_cons_succ, i64_w, i32_w]
      rfl
     refine pure_ (i := 8) (N := some 11) (v := ?_) (a' := ?_) (bA 33 511) rfl rfl (any_of HT_.out (by kernel_rfl)) (fun _ _ _ h => h) (Or.inl ⟨by rfl, ?_⟩) ?_ ?_
     rotate_left
     ·intro w'
      go_simp
      with_reducible rfl
     rotate_left
     ·simp only [Act.put, List.setIfInBounds_toArray, List.set_cons_zero, List.set_cons_succ, i64_w, i32_w]
      rfl
     refine take_ (i := 9) (N := some 12) (v := ?_) (a' := ?_) (bA 33 1023) rfl rfl (take_ofW HT_.out HW_.out (by kernel_rfl)) (fun _ _ _ h => h) (Or.inl ⟨by rfl, ?_⟩) hHeld ?_ ?_
     rotate_left
     ·intro w' _
      go_simp
      with_reducible rfl
     rotate_left
     ·simp only [Act.put, List.setIfInBounds_toArray, List.set_cons_zero, List.set_cons_succ, i64_w, i32_w]
      rfl
     refine one_ (i := 10) (N := some 13) (bA 33 2047) rfl rfl (one_of HT_.out (by kernel_rfl)) (by decide) (fun K hK => ?_)
     refine goes_ Tryz.func102 (by kernel_rfl) rfl #[.int .u8 (bt a0 10)] (by rfl) rfl rfl (by (try simp only [List.map_toArray, List.map_cons, List.map_nil]); first | done | rfl | (simp only [List.length_drop, List.length_take]; rfl)) ?_
     with_reducible refine (supercargoref03_digit.calls (bt a0 10) false _ A7.out).mono ?_
     rintro e w' ⟨rfl, ⟨nd, rfl⟩⟩
     refine ⟨_, rfl, ?_⟩
     refine hK.out _ _ trivial (fun hHeld => ?_)
     clear hK K
     refine norm_ (a' := ?_) ?_ ?_
     rotate_left
     ·show Act.put _ (some 13) _ = _
      simp only [Act.put, List.setIfInBounds_toArray, List.set_cons_zero, List.set_cons_succ, i64_w, i32_w]
      rfl
     refine pure_ (i := 11) (N := some 14) (v := ?_) (a' := ?_) (bA 33 4095) rfl rfl (any_of HT_.out (by kernel_rfl)) (fun _ _ _ h => h) (Or.inl ⟨by rfl, ?_⟩) ?_ ?_
     rotate_left
     ·intro w'
      go_simp
      with_reducible rfl
     rotate_left
     ·simp only [Act.put, List.setIfInBounds_toArray, List.set_cons_zero, List.set_cons_succ, i64_w, i32_w]
      rfl
     refine pure_ (i := 12) (N := some 15) (v := ?_) (a' := ?_) (bA 33 8191) rfl rfl (any_of HT_.out (by kernel_rfl)) (fun _ _ _ h => h) (Or.inl ⟨by rfl, ?_⟩) ?_ ?_
     rotate_left
     ·intro w'
      go_simp
      with_reducible rfl
     rotate_left
     ·simp only [Act.put, List.setIfInBounds_toArray, List.set_cons_zero, List.set_cons_succ, i64_w, i32_w]
      rfl
     refine pure_ (i := 13) (N := some 16) (v := undef) (a' := ?_) (bA 33 16383) rfl rfl (any_of HT_.out (by kernel_rfl)) (fun _ _ _ h => h) (Or.inr ⟨by rfl, rfl⟩) ?_ ?_
     rotate_left
     ·simp only [Act.put, List.setIfInBounds_toArray, List.set_cons_zero, List.set_cons_succ, i64_w, i32_w]
      rfl
     refine pure_ (i := 14) (N := some 17) (v := undef) (a' := ?_) (bA 33 32767) rfl rfl (any_of HT_.out (by kernel_rfl)) (fun _ _ _ h => h) (Or.inr ⟨by rfl, rfl⟩) ?_ ?_
     rotate_left
     ·simp only [Act.put, List.setIfInBounds_toArray, List.set_cons_zero, List.set_cons_succ, i64_w, i32_w]
      rfl
     refine pure_ (i := 15) (N := some 18) (v := undef) (a' := ?_) (bA 33 65535) rfl rfl (any_of HT_.out (by kernel_rfl)) (fun _ _ _ h => h) (Or.inr ⟨by rfl, rfl⟩) ?_ ?_
     rotate_left
     ·simp only [Act.put, List.setIfInBounds_toArray, List.set_cons_zero, List.set_cons_succ, i64_w, i32_w]
      rfl
     refine pure_ (i := 16) (N := some 19) (v := ?_) (a' := ?_) (bA 33 131071) rfl rfl (any_of HT_.out (by kernel_rfl)) (fun _ _ _ h => h) (Or.inl ⟨by rfl, ?_⟩) ?_ ?_
     rotate_left
     ·intro w'
      go_simp
      with_reducible rfl
     rotate_left
     ·simp only [Act.put, List.setIfInBounds_toArray, List.set_cons_zero, List.set_cons_succ, i64_w, i32_w]
      rfl
     refine pure_ (i := 17) (N := some 20) (v := ?_) (a' := ?_) (bA 33 262143) rfl rfl (any_of HT_.out (by kernel_rfl)) (fun _ _ _ h => h) (Or.inl ⟨by rfl, ?_⟩) ?_ ?_
     rotate_left
     ·intro w'
      go_simp
      with_reducible rfl
     rotate_left
     ·simp only [Act.put, List.setIfInBounds_toArray, List.set_cons_zero, List.set_cons_succ, i64_w, i32_w]
      rfl
     refine pure_ (i := 18) (N := some 21) (v := undef) (a' := ?_) (bA 33 524287) rfl rfl (any_of HT_.out (by kernel_rfl)) (fun _ _ _ h => h) (Or.inr ⟨by rfl, rfl⟩) ?_ ?_
     rotate_left
     ·simp only [Act.put, List.setIfInBounds_toArray, List.set_cons_zero, List.set_cons_succ, i64_w, i32_w]
      rfl
     refine pure_ (i := 19) (N := some 22) (v := undef) (a' := ?_) (bA 33 1048575) rfl rfl (any_of HT_.out (by kernel_rfl)) (fun _ _ _ h => h) (Or.inr ⟨by rfl, rfl⟩) ?_ ?_
     rotate_left
     ·simp only [Act.put, List.setIfInBounds_toArray, List.set_cons_zero, List.set_cons_succ, i64_w, i32_w]
      rfl
     refine pure_ (i := 20) (N := some 23) (v := undef) (a' := ?_) (bA 33 2097151) rfl rfl (any_of HT_.out (by kernel_rfl)) (fun _ _ _ h => h) (Or.inr ⟨by rfl, rfl⟩) ?_ ?_
     rotate_left
     ·simp only [Act.put, List.setIfInBounds_toArray, List.set_cons_zero, List.set_cons_succ, i64_w, i32_w]
      rfl
     refine pure_ (i := 21) (N := some 24) (v := undef) (a' := ?_) (bA 33 4194303) rfl rfl (any_of HT_.out (by kernel_rfl)) (fun _ _ _ h => h) (Or.inr ⟨by rfl, rfl⟩) ?_ ?_
     rotate_left
     ·simp only [Act.put, List.setIfInBounds_toArray, List.set_cons_zero, List.set_cons_succ, i64_w, i32_w]
      rfl
     refine pure_ (i := 22) (N := some 25) (v := undef) (a' := ?_) (bA 33 8388607) rfl rfl (any_of HT_.out (by kernel_rfl)) (fun _ _ _ h => h) (Or.inr ⟨by rfl, rfl⟩) ?_ ?_
     rotate_left
     ·simp only [Act.put, List.setIfInBounds_toArray, List.set_cons_zero, List.set_cons_succ, i64_w, i32_w]
      rfl
     refine pure_ (i := 23) (N := some 26) (v := undef) (a' := ?_) (bA 33 16777215) rfl rfl (any_of HT_.out (by kernel_rfl)) (fun _ _ _ h => h) (Or.inr ⟨by rfl, rfl⟩) ?_ ?_
     rotate_left
     ·simp only [Act.put, List.setIfInBounds_toArray, List.set_cons_zero, List.set_cons_succ, i64_w, i32_w]
      rfl
     refine pure_ (i := 24) (N := some 27) (v := undef) (a' := ?_) (bA 33 33554431) rfl rfl (any_of HT_.out (by kernel_rfl)) (fun _ _ _ h => h) (Or.inr ⟨by rfl, rfl⟩) ?_ ?_
     rotate_left
     ·simp only [Act.put, List.setIfInBounds_toArray, List.set_cons_zero, List.set_cons_succ, i64_w, i32_w]
      rfl
     refine pure_ (i := 25) (N := some 28) (v := undef) (a' := ?_) (bA 33 67108863) rfl rfl (any_of HT_.out (by kernel_rfl)) (fun _ _ _ h => h) (Or.inr ⟨by rfl, rfl⟩) ?_ ?_
     rotate_left
     ·simp only [Act.put, List.setIfInBounds_toArray, List.set_cons_zero, List.set_cons_succ, i64_w, i32_w]
      rfl
     refine pure_ (i := 26) (N := some 29) (v := undef) (a' := ?_) (bA 33 134217727) rfl rfl (any_of HT_.out (by kernel_rfl)) (fun _ _ _ h => h) (Or.inr ⟨by rfl, rfl⟩) ?_ ?_
     rotate_left
     ·simp only [Act.put, List.setIfInBounds_toArray, List.set_cons_zero, List.set_cons_succ, i64_w, i32_w]
      rfl
     refine pure_ (i := 27) (N := some 30) (v := undef) (a' := ?_) (bA 33 268435455) rfl rfl (any_of HT_.out (by kernel_rfl)) (fun _ _ _ h => h) (Or.inr ⟨by rfl, rfl⟩) ?_ ?_
     rotate_left
     ·simp only [Act.put, List.setIfInBounds_toArray, List.set_cons_zero, List.set_cons_succ, i64_w, i32_w]
      rfl
     refine pure_ (i := 28) (N := some 31) (v := undef) (a' := ?_) (bA 33 536870911) rfl rfl (any_of HT_.out (by kernel_rfl)) (fun _ _ _ h => h) (Or.inr ⟨by rfl, rfl⟩) ?_ ?_
     rotate_left
     ·simp only [Act.put, List.setIfInBounds_toArray, List.set_cons_zero, List.set_cons_succ, i64_w, i32_w]
      rfl
     refine pure_ (i := 29) (N := some 32) (v := undef) (a' := ?_) (bA 33 1073741823) rfl rfl (any_of HT_.out (by kernel_rfl)) (fun _ _ _ h => h) (Or.inr ⟨by rfl, rfl⟩) ?_ ?_
     rotate_left
     ·simp only [Act.put, List.setIfInBounds_toArray, List.set_cons_zero, List.set_cons_succ, i64_w, i32_w]
      rfl
     refine pure_ (i := 30) (N := some 33) (v := undef) (a' := ?_) (bA 33 2147483647) rfl rfl (any_of HT_.out (by kernel_rfl)) (fun _ _ _ h => h) (Or.inr ⟨by rfl, rfl⟩) ?_ ?_
     rotate_left
     ·simp only [Act.put, List.setIfInBounds_toArray, List.set_cons_zero, List.set_cons_succ, i64_w, i32_w]
      rfl
     refine pure_ (i := 31) (N := some 34) (v := ?_) (a' := ?_) (bA 33 4294967295) rfl rfl (any_of HT_.out (by kernel_rfl)) (fun _ _ _ h => h) (Or.inl ⟨by rfl, ?_⟩) ?_ ?_
     rotate_left
     ·intro w'
      go_simp
      with_reducible rfl
     rotate_left
     ·simp only [Act.put, List.setIfInBounds_toArray, List.set_cons_zero, List.set_cons_succ, i64_w, i32_w]
      rfl
     refine pure_ (i := 32) (N := some 2) (v := ?_) (a' := ?_) (bA 33 8589934591) rfl rfl (any_of HT_.out (by kernel_rfl)) (fun _ _ _ h => h) (Or.inl ⟨by rfl, ?_⟩) ?_ ?_
     rotate_left
     ·intro w'
      go_simp
      with_reducible rfl
     rotate_left
     ·simp only [Act.put, List.setIfInBounds_toArray, List.set_cons_zero, List.set_cons_succ, i64_w, i32_w]
      rfl
     refine done_ (done_of HT_.out (by kernel_rfl)) ?_
     try go_wp2
     go_ret
     exact ⟨by first | rfl | (simp [errW_none, errW_some] <;> rfl) | (simp [*, errW_none, errW_some] <;> rfl), by repeat (first | (with_reducible first | exact HB.out | apply below_alloc | apply pw_below_drewN | apply below_drew1) | exact HB.out)⟩
   ·rw [if_neg c5] at H
    exact absurd H (by simp)
  ·replace c4 := Bool.eq_false_iff.mpr c4
   subst c4
   have H1 : (some false) = some r := by rw [if_neg (show ¬ (false = true) by decide)] at H; exact H
   clear H
   have H := H1
   clear H1
   obtain rfl := Option.some.inj H
   go_enter Tryz.func68, Tryz.ntmps68
   try go_wp2
   have n0_ := Aside0.mk (below_drew1 HB.out)
   clear HB
   have HB := n0_
   clear n0_
   refine start_ (n := 33) (S := fun w' => True) (ds := []) (bA 33 0) (by kernel_rfl) rfl rfl trivial (fun hHeld => ?_); refine with_tabW supercargoref03_Right.tab1 supercargoref03_Right.bits1 (fun HT_ HW_ => ?_)
   generalize w.drew = w19 at HB hHeld ⊢
   refine pure_ (i := 0) (N := some 3) (v := ?_) (a' := ?_) (bA 33 1) rfl rfl (any_of HT_.out (by kernel_rfl)) (fun _ _ _ h => h) (Or.inl ⟨by rfl, ?_⟩) ?_ ?_
   rotate_left
   ·intro w'
    go_simp
    with_reducible rfl
   rotate_left
   ·simp only [Act.put, List.setIfInBounds_toArray, List.set_cons_zero, List.set_cons_succ, i64_w, i32_w]
    rfl
   refine pure_ (i := 1) (N := some 4) (v := ?_) (a' := ?_) (bA 33 3) rfl rfl (any_of HT_.out (by kernel_rfl)) (fun _ _ _ h => h) (Or.inl ⟨by rfl, ?_⟩) ?_ ?_
   rotate_left
   ·intro w'
    go_simp
    with_reducible rfl
   rotate_left
   ·simp only [Act.put, List.setIfInBounds_toArray, List.set_cons_zero, List.set_cons_succ, i64_w, i32_w]
    rfl
   refine pure_ (i := 2) (N := some 5) (v := ?_) (a' := ?_) (bA 33 7) rfl rfl (any_of HT_.out (by kernel_rfl)) (fun _ _ _ h => h) (Or.inl ⟨by rfl, ?_⟩) ?_ ?_
   rotate_left
   ·intro w'
    go_simp
    with_reducible rfl
   rotate_left
   ·simp only [Act.put, List.setIfInBounds_toArray, List.set_cons_zero, List.set_cons_succ, i64_w, i32_w]
    rfl
   refine pure_ (i := 3) (N := some 6) (v := ?_) (a' := ?_) (bA 33 15) rfl rfl (any_of HT_.out (by kernel_rfl)) (fun _ _ _ h => h) (Or.inl ⟨by rfl, ?_⟩) ?_ ?_
   rotate_left
   ·intro w'
    go_simp
    with_reducible rfl
   rotate_left
   ·simp only [Act.put, List.setIfInBounds_toArray, List.set_cons_zero, List.set_cons_succ, i64_w, i32_w]
    rfl
   refine pure_ (i := 4) (N := some 7) (v := ?_) (a' := ?_) (bA 33 31) rfl rfl (any_of HT_.out (by kernel_rfl)) (fun _ _ _ h => h) (Or.inl ⟨by rfl, ?_⟩) ?_ ?_
   rotate_left
   ·intro w'
    go_simp
    with_reducible rfl
   rotate_left
   ·simp only [Act.put, List.setIfInBounds_toArray, List.set_cons_zero, List.set_cons_succ, i64_w, i32_w]
    rfl
   refine one_ (i := 5) (N := some 8) (bA 33 63) rfl rfl (one_of HT_.out (by kernel_rfl)) (by decide) (fun K hK => ?_)
   refine goes_ Tryz.func101 (by kernel_rfl) rfl #[.string a0] (by rfl) rfl rfl (by (try simp only [List.map_toArray, List.map_cons, List.map_nil]); first | done | rfl | (simp only [List.length_drop, List.length_take]; rfl)) ?_
   with_reducible refine (supercargoref03_head.calls k a0 false _ A3.out).mono ?_
   rintro e w' ⟨rfl, ⟨nd, rfl⟩⟩
   refine ⟨_, rfl, ?_⟩
   refine hK.out _ _ trivial (fun hHeld => ?_)
   clear hK K
   refine norm_ (a' := ?_) ?_ ?_
   rotate_left
   ·show Act.put _ (some 8) _ = _
    simp only [Act.put, List.setIfInBounds_toArray, List.set_cons_zero, List.set_cons_succ, i64_w, i32_w]
    rfl
   refine pure_ (i := 6) (N := some 9) (v := ?_) (a' := ?_) (bA 33 127) rfl rfl (any_of HT_.out (by kernel_rfl)) (fun _ _ _ h => h) (Or.inl ⟨by rfl, ?_⟩) ?_ ?_
   rotate_left
   ·intro w'
    go_simp
    with_reducible rfl
   rotate_left
   ·simp only [Act.put, List.setIfInBounds_toArray, List.set_cons_zero, List.set_cons_succ, i64_w, i32_w]
    rfl
   refine pure_ (i := 7) (N := some 10) (v := ?_) (a' := ?_) (bA 33 255) rfl rfl (any_of HT_.out (by kernel_rfl)) (fun _ _ _ h => h) (Or.inl ⟨by rfl, ?_⟩) ?_ ?_
   rotate_left
   ·intro w'
    go_simp
    with_reducible rfl
   rotate_left
   ·simp only [Act.put, List.setIfInBounds_toArray, List.set_cons_zero, List.set_cons_succ, i64_w, i32_w]
    rfl
   refine pure_ (i := 8) (N := some 11) (v := undef) (a' := ?_) (bA 33 511) rfl rfl (any_of HT_.out (by kernel_rfl)) (fun _ _ _ h => h) (Or.inr ⟨by rfl, rfl⟩) ?_ ?_
   rotate_left
   ·simp only [Act.put, List.setIfInBounds_toArray, List.set_cons_zero, List.set_cons_succ, i64_w, i32_w]
    rfl
   refine pure_ (i := 9) (N := some 12) (v := undef) (a' := ?_) (bA 33 1023) rfl rfl (any_of HT_.out (by kernel_rfl)) (fun _ _ _ h => h) (Or.inr ⟨by rfl, rfl⟩) ?_ ?_
   rotate_left
   ·simp only [Act.put, List.setIfInBounds_toArray, List.set_cons_zero, List.set_cons_succ, i64_w, i32_w]
    rfl
   refine pure_ (i := 10) (N := some 13) (v := undef) (a' := ?_) (bA 33 2047) rfl rfl (any_of HT_.out (by kernel_rfl)) (fun _ _ _ h => h) (Or.inr ⟨by rfl, rfl⟩) ?_ ?_
   rotate_left
   ·simp only [Act.put, List.setIfInBounds_toArray, List.set_cons_zero, List.set_cons_succ, i64_w, i32_w]
    rfl
   refine pure_ (i := 11) (N := some 14) (v := ?_) (a' := ?_) (bA 33 4095) rfl rfl (any_of HT_.out (by kernel_rfl)) (fun _ _ _ h => h) (Or.inl ⟨by rfl, ?_⟩) ?_ ?_
   rotate_left
   ·intro w'
    go_simp
    with_reducible rfl
   rotate_left
   ·simp only [Act.put, List.setIfInBounds_toArray, List.set_cons_zero, List.set_cons_succ, i64_w, i32_w]
    rfl
   refine pure_ (i := 12) (N := some 15) (v := ?_) (a' := ?_) (bA 33 8191) rfl rfl (any_of HT_.out (by kernel_rfl)) (fun _ _ _ h => h) (Or.inl ⟨by rfl, ?_⟩) ?_ ?_
   rotate_left
   ·intro w'
    go_simp
    with_reducible rfl
   rotate_left
   ·simp only [Act.put, List.setIfInBounds_toArray, List.set_cons_zero, List.set_cons_succ, i64_w, i32_w]
    rfl
   refine pure_ (i := 13) (N := some 16) (v := undef) (a' := ?_) (bA 33 16383) rfl rfl (any_of HT_.out (by kernel_rfl)) (fun _ _ _ h => h) (Or.inr ⟨by rfl, rfl⟩) ?_ ?_
   rotate_left
   ·simp only [Act.put, List.setIfInBounds_toArray, List.set_cons_zero, List.set_cons_succ, i64_w, i32_w]
    rfl
   refine pure_ (i := 14) (N := some 17) (v := undef) (a' := ?_) (bA 33 32767) rfl rfl (any_of HT_.out (by kernel_rfl)) (fun _ _ _ h => h) (Or.inr ⟨by rfl, rfl⟩) ?_ ?_
   rotate_left
   ·simp only [Act.put, List.setIfInBounds_toArray, List.set_cons_zero, List.set_cons_succ, i64_w, i32_w]
    rfl
   refine pure_ (i := 15) (N := some 18) (v := undef) (a' := ?_) (bA 33 65535) rfl rfl (any_of HT_.out (by kernel_rfl)) (fun _ _ _ h => h) (Or.inr ⟨by rfl, rfl⟩) ?_ ?_
   rotate_left
   ·simp only [Act.put, List.setIfInBounds_toArray, List.set_cons_zero, List.set_cons_succ, i64_w, i32_w]
    rfl
   refine pure_ (i := 16) (N := some 19) (v := ?_) (a' := ?_) (bA 33 131071) rfl rfl (any_of HT_.out (by kernel_rfl)) (fun _ _ _ h => h) (Or.inl ⟨by rfl, ?_⟩) ?_ ?_
   rotate_left
   ·intro w'
    go_simp
    with_reducible rfl
   rotate_left
   ·simp only [Act.put, List.setIfInBounds_toArray, List.set_cons_zero, List.set_cons_succ, i64_w, i32_w]
    rfl
   refine pure_ (i := 17) (N := some 20) (v := ?_) (a' := ?_) (bA 33 262143) rfl rfl (any_of HT_.out (by kernel_rfl)) (fun _ _ _ h => h) (Or.inl ⟨by rfl, ?_⟩) ?_ ?_
   rotate_left
   ·intro w'
    go_simp
    with_reducible rfl
   rotate_left
   ·simp only [Act.put, List.setIfInBounds_toArray, List.set_cons_zero, List.set_cons_succ, i64_w, i32_w]
    rfl
   refine pure_ (i := 18) (N := some 21) (v := undef) (a' := ?_) (bA 33 524287) rfl rfl (any_of HT_.out (by kernel_rfl)) (fun _ _ _ h => h) (Or.inr ⟨by rfl, rfl⟩) ?_ ?_
   rotate_left
   ·simp only [Act.put, List.setIfInBounds_toArray, List.set_cons_zero, List.set_cons_succ, i64_w, i32_w]
    rfl
   refine pure_ (i := 19) (N := some 22) (v := undef) (a' := ?_) (bA 33 1048575) rfl rfl (any_of HT_.out (by kernel_rfl)) (fun _ _ _ h => h) (Or.inr ⟨by rfl, rfl⟩) ?_ ?_
   rotate_left
   ·simp only [Act.put, List.setIfInBounds_toArray, List.set_cons_zero, List.set_cons_succ, i64_w, i32_w]
    rfl
   refine pure_ (i := 20) (N := some 23) (v := undef) (a' := ?_) (bA 33 2097151) rfl rfl (any_of HT_.out (by kernel_rfl)) (fun _ _ _ h => h) (Or.inr ⟨by rfl, rfl⟩) ?_ ?_
   rotate_left
   ·simp only [Act.put, List.setIfInBounds_toArray, List.set_cons_zero, List.set_cons_succ, i64_w, i32_w]
    rfl
   refine pure_ (i := 21) (N := some 24) (v := undef) (a' := ?_) (bA 33 4194303) rfl rfl (any_of HT_.out (by kernel_rfl)) (fun _ _ _ h => h) (Or.inr ⟨by rfl, rfl⟩) ?_ ?_
   rotate_left
   ·simp only [Act.put, List.setIfInBounds_toArray, List.set_cons_zero, List.set_cons_succ, i64_w, i32_w]
    rfl
   refine pure_ (i := 22) (N := some 25) (v := undef) (a' := ?_) (bA 33 8388607) rfl rfl (any_of HT_.out (by kernel_rfl)) (fun _ _ _ h => h) (Or.inr ⟨by rfl, rfl⟩) ?_ ?_
   rotate_left
   ·simp only [Act.put, List.setIfInBounds_toArray, List.set_cons_zero, List.set_cons_succ, i64_w, i32_w]
    rfl
   refine pure_ (i := 23) (N := some 26) (v := undef) (a' := ?_) (bA 33 16777215) rfl rfl (any_of HT_.out (by kernel_rfl)) (fun _ _ _ h => h) (Or.inr ⟨by rfl, rfl⟩) ?_ ?_
   rotate_left
   ·simp only [Act.put, List.setIfInBounds_toArray, List.set_cons_zero, List.set_cons_succ, i64_w, i32_w]
    rfl
   refine pure_ (i := 24) (N := some 27) (v := undef) (a' := ?_) (bA 33 33554431) rfl rfl (any_of HT_.out (by kernel_rfl)) (fun _ _ _ h => h) (Or.inr ⟨by rfl, rfl⟩) ?_ ?_
   rotate_left
   ·simp only [Act.put, List.setIfInBounds_toArray, List.set_cons_zero, List.set_cons_succ, i64_w, i32_w]
    rfl
   refine pure_ (i := 25) (N := some 28) (v := undef) (a' := ?_) (bA 33 67108863) rfl rfl (any_of HT_.out (by kernel_rfl)) (fun _ _ _ h => h) (Or.inr ⟨by rfl, rfl⟩) ?_ ?_
   rotate_left
   ·simp only [Act.put, List.setIfInBounds_toArray, List.set_cons_zero, List.set_cons_succ, i64_w, i32_w]
    rfl
   refine pure_ (i := 26) (N := some 29) (v := undef) (a' := ?_) (bA 33 134217727) rfl rfl (any_of HT_.out (by kernel_rfl)) (fun _ _ _ h => h) (Or.inr ⟨by rfl, rfl⟩) ?_ ?_
   rotate_left
   ·simp only [Act.put, List.setIfInBounds_toArray, List.set_cons_zero, List.set_cons_succ, i64_w, i32_w]
    rfl
   refine pure_ (i := 27) (N := some 30) (v := undef) (a' := ?_) (bA 33 268435455) rfl rfl (any_of HT_.out (by kernel_rfl)) (fun _ _ _ h => h) (Or.inr ⟨by rfl, rfl⟩) ?_ ?_
   rotate_left
   ·simp only [Act.put, List.setIfInBounds_toArray, List.set_cons_zero, List.set_cons_succ, i64_w, i32_w]
    rfl
   refine pure_ (i := 28) (N := some 31) (v := undef) (a' := ?_) (bA 33 536870911) rfl rfl (any_of HT_.out (by kernel_rfl)) (fun _ _ _ h => h) (Or.inr ⟨by rfl, rfl⟩) ?_ ?_
   rotate_left
   ·simp only [Act.put, List.setIfInBounds_toArray, List.set_cons_zero, List.set_cons_succ, i64_w, i32_w]
    rfl
   refine pure_ (i := 29) (N := some 32) (v := undef) (a' := ?_) (bA 33 1073741823) rfl rfl (any_of HT_.out (by kernel_rfl)) (fun _ _ _ h => h) (Or.inr ⟨by rfl, rfl⟩) ?_ ?_
   rotate_left
   ·simp only [Act.put, List.setIfInBounds_toArray, List.set_cons_zero, List.set_cons_succ, i64_w, i32_w]
    rfl
   refine pure_ (i := 30) (N := some 33) (v := undef) (a' := ?_) (bA 33 2147483647) rfl rfl (any_of HT_.out (by kernel_rfl)) (fun _ _ _ h => h) (Or.inr ⟨by rfl, rfl⟩) ?_ ?_
   rotate_left
   ·simp only [Act.put, List.setIfInBounds_toArray, List.set_cons_zero, List.set_cons_succ, i64_w, i32_w]
    rfl
   refine pure_ (i := 31) (N := some 34) (v := ?_) (a' := ?_) (bA 33 4294967295) rfl rfl (any_of HT_.out (by kernel_rfl)) (fun _ _ _ h => h) (Or.inl ⟨by rfl, ?_⟩) ?_ ?_
   rotate_left
   ·intro w'
    go_simp
    with_reducible rfl
   rotate_left
   ·simp only [Act.put, List.setIfInBounds_toArray, List.set_cons_zero, List.set_cons_succ, i64_w, i32_w]
    rfl
   refine pure_ (i := 32) (N := some 2) (v := ?_) (a' := ?_) (bA 33 8589934591) rfl rfl (any_of HT_.out (by kernel_rfl)) (fun _ _ _ h => h) (Or.inl ⟨by rfl, ?_⟩) ?_ ?_
   rotate_left
   ·intro w'
    go_simp
    with_reducible rfl
   rotate_left
   ·simp only [Act.put, List.setIfInBounds_toArray, List.set_cons_zero, List.set_cons_succ, i64_w, i32_w]
    rfl
   refine done_ (done_of HT_.out (by kernel_rfl)) ?_
   try go_wp2
   go_ret
   exact ⟨by first | rfl | (simp [errW_none, errW_some] <;> rfl) | (simp [*, errW_none, errW_some] <;> rfl), by repeat (first | (with_reducible first | exact HB.out | apply below_alloc | apply pw_below_drewN | apply below_drew1) | exact HB.out)⟩
 ·rw [if_neg c2] at H
  have c2b0 : ((a0.size : Int) == 12) = false := beq_eq_false_iff_ne.mpr c2
  have c2b1 : ((a0.size : Int) != 12) = true := bne_iff_ne.mpr c2
  obtain rfl := Option.some.inj H
  go_enter Tryz.func68, Tryz.ntmps68
  try go_wp2
  have n0_ := Aside0.mk (below_drew1 HB.out)
  clear HB
  have HB := n0_
  clear n0_
  refine start_ (n := 33) (S := fun w' => True) (ds := []) (bA 33 0) (by kernel_rfl) rfl rfl trivial (fun hHeld => ?_); refine with_tabW supercargoref03_Right.tab1 supercargoref03_Right.bits1 (fun HT_ HW_ => ?_)
  generalize w.drew = w20 at HB hHeld ⊢
  refine pure_ (i := 0) (N := some 3) (v := ?_) (a' := ?_) (bA 33 1) rfl rfl (any_of HT_.out (by kernel_rfl)) (fun _ _ _ h => h) (Or.inl ⟨by rfl, ?_⟩) ?_ ?_
  rotate_left
  ·intro w'
   go_simp
   with_reducible rfl
  rotate_left
  ·simp only [Act.put, List.setIfInBounds_toArray, List.set_cons_zero, List.set_cons_succ, i64_w, i32_w]
   rfl
  refine pure_ (i := 1) (N := some 4) (v := ?_) (a' := ?_) (bA 33 3) rfl rfl (any_of HT_.out (by kernel_rfl)) (fun _ _ _ h => h) (Or.inl ⟨by rfl, ?_⟩) ?_ ?_
  rotate_left
  ·intro w'
   go_simp
   with_reducible rfl
  rotate_left
  ·simp only [Act.put, List.setIfInBounds_toArray, List.set_cons_zero, List.set_cons_succ, i64_w, i32_w]
   rfl
  refine pure_ (i := 2) (N := some 5) (v := ?_) (a' := ?_) (bA 33 7) rfl rfl (any_of HT_.out (by kernel_rfl)) (fun _ _ _ h => h) (Or.inl ⟨by rfl, ?_⟩) ?_ ?_
  rotate_left
  ·intro w'
   go_simp
   with_reducible rfl
  rotate_left
  ·simp only [Act.put, List.setIfInBounds_toArray, List.set_cons_zero, List.set_cons_succ, i64_w, i32_w]
   rfl
  refine pure_ (i := 3) (N := some 6) (v := ?_) (a' := ?_) (bA 33 15) rfl rfl (any_of HT_.out (by kernel_rfl)) (fun _ _ _ h => h) (Or.inl ⟨by rfl, ?_⟩) ?_ ?_
  rotate_left
  ·intro w'
   go_simp
   with_reducible rfl
  rotate_left
  ·simp only [Act.put, List.setIfInBounds_toArray, List.set_cons_zero, List.set_cons_succ, i64_w, i32_w]
   rfl
  refine pure_ (i := 4) (N := some 7) (v := undef) (a' := ?_) (bA 33 31) rfl rfl (any_of HT_.out (by kernel_rfl)) (fun _ _ _ h => h) (Or.inr ⟨by rfl, rfl⟩) ?_ ?_
  rotate_left
  ·simp only [Act.put, List.setIfInBounds_toArray, List.set_cons_zero, List.set_cons_succ, i64_w, i32_w]
   rfl
  refine pure_ (i := 5) (N := some 8) (v := undef) (a' := ?_) (bA 33 63) rfl rfl (any_of HT_.out (by kernel_rfl)) (fun _ _ _ h => h) (Or.inr ⟨by rfl, rfl⟩) ?_ ?_
  rotate_left
  ·simp only [Act.put, List.setIfInBounds_toArray, List.set_cons_zero, List.set_cons_succ, i64_w, i32_w]
   rfl
  refine pure_ (i := 6) (N := some 9) (v := ?_) (a' := ?_) (bA 33 127) rfl rfl (any_of HT_.out (by kernel_rfl)) (fun _ _ _ h => h) (Or.inl ⟨by rfl, ?_⟩) ?_ ?_
  rotate_left
  ·intro w'
   go_simp
   with_reducible rfl
  rotate_left
  ·simp only [Act.put, List.setIfInBounds_toArray, List.set_cons_zero, List.set_cons_succ, i64_w, i32_w]
   rfl
  refine pure_ (i := 7) (N := some 10) (v := ?_) (a' := ?_) (bA 33 255) rfl rfl (any_of HT_.out (by kernel_rfl)) (fun _ _ _ h => h) (Or.inl ⟨by rfl, ?_⟩) ?_ ?_
  rotate_left
  ·intro w'
   go_simp
   with_reducible rfl
  rotate_left
  ·simp only [Act.put, List.setIfInBounds_toArray, List.set_cons_zero, List.set_cons_succ, i64_w, i32_w]
   rfl
  refine pure_ (i := 8) (N := some 11) (v := undef) (a' := ?_) (bA 33 511) rfl rfl (any_of HT_.out (by kernel_rfl)) (fun _ _ _ h => h) (Or.inr ⟨by rfl, rfl⟩) ?_ ?_
  rotate_left
  ·simp only [Act.put, List.setIfInBounds_toArray, List.set_cons_zero, List.set_cons_succ, i64_w, i32_w]
   rfl
  refine pure_ (i := 9) (N := some 12) (v := undef) (a' := ?_) (bA 33 1023) rfl rfl (any_of HT_.out (by kernel_rfl)) (fun _ _ _ h => h) (Or.inr ⟨by rfl, rfl⟩) ?_ ?_
  rotate_left
  ·simp only [Act.put, List.setIfInBounds_toArray, List.set_cons_zero, List.set_cons_succ, i64_w, i32_w]
   rfl
  refine pure_ (i := 10) (N := some 13) (v := undef) (a' := ?_) (bA 33 2047) rfl rfl (any_of HT_.out (by kernel_rfl)) (fun _ _ _ h => h) (Or.inr ⟨by rfl, rfl⟩) ?_ ?_
  rotate_left
  ·simp only [Act.put, List.setIfInBounds_toArray, List.set_cons_zero, List.set_cons_succ, i64_w, i32_w]
   rfl
  refine pure_ (i := 11) (N := some 14) (v := ?_) (a' := ?_) (bA 33 4095) rfl rfl (any_of HT_.out (by kernel_rfl)) (fun _ _ _ h => h) (Or.inl ⟨by rfl, ?_⟩) ?_ ?_
  rotate_left
  ·intro w'
   go_simp
   with_reducible rfl
  rotate_left
  ·simp only [Act.put, List.setIfInBounds_toArray, List.set_cons_zero, List.set_cons_succ, i64_w, i32_w]
   rfl
  refine pure_ (i := 12) (N := some 15) (v := ?_) (a' := ?_) (bA 33 8191) rfl rfl (any_of HT_.out (by kernel_rfl)) (fun _ _ _ h => h) (Or.inl ⟨by rfl, ?_⟩) ?_ ?_
  rotate_left
  ·intro w'
   go_simp
   with_reducible rfl
  rotate_left
  ·simp only [Act.put, List.setIfInBounds_toArray, List.set_cons_zero, List.set_cons_succ, i64_w, i32_w]
   rfl
  refine pure_ (i := 13) (N := some 16) (v := undef) (a' := ?_) (bA 33 16383) rfl rfl (any_of HT_.out (by kernel_rfl)) (fun _ _ _ h => h) (Or.inr ⟨by rfl, rfl⟩) ?_ ?_
  rotate_left
  ·simp only [Act.put, List.setIfInBounds_toArray, List.set_cons_zero, List.set_cons_succ, i64_w, i32_w]
   rfl
  refine pure_ (i := 14) (N := some 17) (v := undef) (a' := ?_) (bA 33 32767) rfl rfl (any_of HT_.out (by kernel_rfl)) (fun _ _ _ h => h) (Or.inr ⟨by rfl, rfl⟩) ?_ ?_
  rotate_left
  ·simp only [Act.put, List.setIfInBounds_toArray, List.set_cons_zero, List.set_cons_succ, i64_w, i32_w]
   rfl
  refine pure_ (i := 15) (N := some 18) (v := undef) (a' := ?_) (bA 33 65535) rfl rfl (any_of HT_.out (by kernel_rfl)) (fun _ _ _ h => h) (Or.inr ⟨by rfl, rfl⟩) ?_ ?_
  rotate_left
  ·simp only [Act.put, List.setIfInBounds_toArray, List.set_cons_zero, List.set_cons_succ, i64_w, i32_w]
   rfl
  refine pure_ (i := 16) (N := some 19) (v := ?_) (a' := ?_) (bA 33 131071) rfl rfl (any_of HT_.out (by kernel_rfl)) (fun _ _ _ h => h) (Or.inl ⟨by rfl, ?_⟩) ?_ ?_
  rotate_left
  ·intro w'
   go_simp
   with_reducible rfl
  rotate_left
  ·simp only [Act.put, List.setIfInBounds_toArray, List.set_cons_zero, List.set_cons_succ, i64_w, i32_w]
   rfl
  refine pure_ (i := 17) (N := some 20) (v := ?_) (a' := ?_) (bA 33 262143) rfl rfl (any_of HT_.out (by kernel_rfl)) (fun _ _ _ h => h) (Or.inl ⟨by rfl, ?_⟩) ?_ ?_
  rotate_left
  ·intro w'
   go_simp
   with_reducible rfl
  rotate_left
  ·simp only [Act.put, List.setIfInBounds_toArray, List.set_cons_zero, List.set_cons_succ, i64_w, i32_w]
   rfl
  refine pure_ (i := 18) (N := some 21) (v := undef) (a' := ?_) (bA 33 524287) rfl rfl (any_of HT_.out (by kernel_rfl)) (fun _ _ _ h => h) (Or.inr ⟨by rfl, rfl⟩) ?_ ?_
  rotate_left
  ·simp only [Act.put, List.setIfInBounds_toArray, List.set_cons_zero, List.set_cons_succ, i64_w, i32_w]
   rfl
  refine pure_ (i := 19) (N := some 22) (v := undef) (a' := ?_) (bA 33 1048575) rfl rfl (any_of HT_.out (by kernel_rfl)) (fun _ _ _ h => h) (Or.inr ⟨by rfl, rfl⟩) ?_ ?_
  rotate_left
  ·simp only [Act.put, List.setIfInBounds_toArray, List.set_cons_zero, List.set_cons_succ, i64_w, i32_w]
   rfl
  refine pure_ (i := 20) (N := some 23) (v := undef) (a' := ?_) (bA 33 2097151) rfl rfl (any_of HT_.out (by kernel_rfl)) (fun _ _ _ h => h) (Or.inr ⟨by rfl, rfl⟩) ?_ ?_
  rotate_left
  ·simp only [Act.put, List.setIfInBounds_toArray, List.set_cons_zero, List.set_cons_succ, i64_w, i32_w]
   rfl
  refine pure_ (i := 21) (N := some 24) (v := undef) (a' := ?_) (bA 33 4194303) rfl rfl (any_of HT_.out (by kernel_rfl)) (fun _ _ _ h => h) (Or.inr ⟨by rfl, rfl⟩) ?_ ?_
  rotate_left
  ·simp only [Act.put, List.setIfInBounds_toArray, List.set_cons_zero, List.set_cons_succ, i64_w, i32_w]
   rfl
  refine pure_ (i := 22) (N := some 25) (v := undef) (a' := ?_) (bA 33 8388607) rfl rfl (any_of HT_.out (by kernel_rfl)) (fun _ _ _ h => h) (Or.inr ⟨by rfl, rfl⟩) ?_ ?_
  rotate_left
  ·simp only [Act.put, List.setIfInBounds_toArray, List.set_cons_zero, List.set_cons_succ, i64_w, i32_w]
   rfl
  refine pure_ (i := 23) (N := some 26) (v := undef) (a' := ?_) (bA 33 16777215) rfl rfl (any_of HT_.out (by kernel_rfl)) (fun _ _ _ h => h) (Or.inr ⟨by rfl, rfl⟩) ?_ ?_
  rotate_left
  ·simp only [Act.put, List.setIfInBounds_toArray, List.set_cons_zero, List.set_cons_succ, i64_w, i32_w]
   rfl
  refine pure_ (i := 24) (N := some 27) (v := undef) (a' := ?_) (bA 33 33554431) rfl rfl (any_of HT_.out (by kernel_rfl)) (fun _ _ _ h => h) (Or.inr ⟨by rfl, rfl⟩) ?_ ?_
  rotate_left
  ·simp only [Act.put, List.setIfInBounds_toArray, List.set_cons_zero, List.set_cons_succ, i64_w, i32_w]
   rfl
  refine pure_ (i := 25) (N := some 28) (v := undef) (a' := ?_) (bA 33 67108863) rfl rfl (any_of HT_.out (by kernel_rfl)) (fun _ _ _ h => h) (Or.inr ⟨by rfl, rfl⟩) ?_ ?_
  rotate_left
  ·simp only [Act.put, List.setIfInBounds_toArray, List.set_cons_zero, List.set_cons_succ, i64_w, i32_w]
   rfl
  refine pure_ (i := 26) (N := some 29) (v := undef) (a' := ?_) (bA 33 134217727) rfl rfl (any_of HT_.out (by kernel_rfl)) (fun _ _ _ h => h) (Or.inr ⟨by rfl, rfl⟩) ?_ ?_
  rotate_left
  ·simp only [Act.put, List.setIfInBounds_toArray, List.set_cons_zero, List.set_cons_succ, i64_w, i32_w]
   rfl
  refine pure_ (i := 27) (N := some 30) (v := undef) (a' := ?_) (bA 33 268435455) rfl rfl (any_of HT_.out (by kernel_rfl)) (fun _ _ _ h => h) (Or.inr ⟨by rfl, rfl⟩) ?_ ?_
  rotate_left
  ·simp only [Act.put, List.setIfInBounds_toArray, List.set_cons_zero, List.set_cons_succ, i64_w, i32_w]
   rfl
  refine pure_ (i := 28) (N := some 31) (v := undef) (a' := ?_) (bA 33 536870911) rfl rfl (any_of HT_.out (by kernel_rfl)) (fun _ _ _ h => h) (Or.inr ⟨by rfl, rfl⟩) ?_ ?_
  rotate_left
  ·simp only [Act.put, List.setIfInBounds_toArray, List.set_cons_zero, List.set_cons_succ, i64_w, i32_w]
   rfl
  refine pure_ (i := 29) (N := some 32) (v := undef) (a' := ?_) (bA 33 1073741823) rfl rfl (any_of HT_.out (by kernel_rfl)) (fun _ _ _ h => h) (Or.inr ⟨by rfl, rfl⟩) ?_ ?_
  rotate_left
  ·simp only [Act.put, List.setIfInBounds_toArray, List.set_cons_zero, List.set_cons_succ, i64_w, i32_w]
   rfl
  refine pure_ (i := 30) (N := some 33) (v := undef) (a' := ?_) (bA 33 2147483647) rfl rfl (any_of HT_.out (by kernel_rfl)) (fun _ _ _ h => h) (Or.inr ⟨by rfl, rfl⟩) ?_ ?_
  rotate_left
  ·simp only [Act.put, List.setIfInBounds_toArray, List.set_cons_zero, List.set_cons_succ, i64_w, i32_w]
   rfl
  refine pure_ (i := 31) (N := some 34) (v := ?_) (a' := ?_) (bA 33 4294967295) rfl rfl (any_of HT_.out (by kernel_rfl)) (fun _ _ _ h => h) (Or.inl ⟨by rfl, ?_⟩) ?_ ?_
  rotate_left
  ·intro w'
   go_simp
   with_reducible rfl
  rotate_left
  ·simp only [Act.put, List.setIfInBounds_toArray, List.set_cons_zero, List.set_cons_succ, i64_w, i32_w]
   rfl
  refine pure_ (i := 32) (N := some 2) (v := ?_) (a' := ?_) (bA 33 8589934591) rfl rfl (any_of HT_.out (by kernel_rfl)) (fun _ _ _ h => h) (Or.inl ⟨by rfl, ?_⟩) ?_ ?_
  rotate_left
  ·intro w'
   go_simp
   with_reducible rfl
  rotate_left
  ·simp only [Act.put, List.setIfInBounds_toArray, List.set_cons_zero, List.set_cons_succ, i64_w, i32_w]
   rfl
  refine done_ (done_of HT_.out (by kernel_rfl)) ?_
  try go_wp2
  go_ret
  exact ⟨by first | rfl | (simp [errW_none, errW_some] <;> rfl) | (simp [*, errW_none, errW_some] <;> rfl), by repeat (first | (with_reducible first | exact HB.out | apply below_alloc | apply pw_below_drewN | apply below_drew1) | exact HB.out)⟩
end Go.Proofs.YtfflbeenkfaemaaGreatDoor.X
namespace Go.Proofs.YtfflbeenkfaemaaGreatDoor.Ref
open Go.RowKit Go.Proofs.YtfflbeenkfaemaaGreatDoor.Ext Go.Proofs.YtfflbeenkfaemaaGreatDoor.X Go.Proofs.YtfflbeenkfaemaaGreatDoorW.PrintWords
noncomputable def dec (p : Prop) : Bool := @decide p (Classical.propDecidable p)
theorem dec_iff (p : Prop) : dec p = true ↔ p := by unfold dec; simp
theorem dec_true {p : Prop} (h : p) : dec p = true := (dec_iff p).2 h
theorem dec_false {p : Prop} (h : ¬ p) : dec p = false := by rw [Bool.eq_false_iff]; exact fun g => h ((dec_iff p).1 g)
theorem dec_congr {p q : Prop} (h : p ↔ q) : dec p = dec q := by rw [Bool.eq_iff_iff, dec_iff, dec_iff]; exact h
theorem w64 {x : Int} (h : -9223372036854775808 ≤ x) (h2 : x ≤ 9223372036854775807) : wrap64 x = x := by unfold wrap64; omega
theorem bt_sgn (s : ByteArray) (k : Nat) : bt s (k : Int) = ((sgn s k).toNat : Int) := by
 unfold bt sgn
 simp only [Int.toNat_natCast]
 split
 ·rename_i h
  have h' : k < s.data.toList.length := by simpa using h
  rw [List.getD_eq_getElem?_getD, List.getElem?_eq_getElem h']
  rfl
 ·rename_i h
  have h' : ¬ k < s.data.toList.length := by simpa using h
  rw [List.getD_eq_getElem?_getD, List.getElem?_eq_none (by omega)]
  rfl
theorem toNat_lt (c : UInt8) : c.toNat < 256 := c.toNat_lt
theorem letter_f (c : UInt8) : supercargoref03_letter.f (c.toNat : Int) = some (isLow c) := by
 unfold supercargoref03_letter.f isLow
 by_cases h : 97 ≤ c.toNat
 ·rw [if_pos (by omega)]
  congr 1
  simp only [h, decide_true, Bool.true_and]
  rw [decide_eq_decide]
  omega
 ·rw [if_neg (by omega)]
  simp [h]
theorem digit_f (c : UInt8) : supercargoref03_digit.f (c.toNat : Int) = some (isDig c) := by
 unfold supercargoref03_digit.f isDig
 by_cases h : 48 ≤ c.toNat
 ·rw [if_pos (by omega)]
  congr 1
  simp only [h, decide_true, Bool.true_and]
  rw [decide_eq_decide]
  omega
 ·rw [if_neg (by omega)]
  simp [h]
/-! ### heads -/
def hd (s : ByteArray) (j : Nat) : Bool := if j < 4 then isLow (sgn s j) else isDig (sgn s j)
theorem sgn_extract (s : ByteArray) (i j k : Nat) (h : i + k < j) (_ : j ≤ s.size) : sgn (s.extract i j) k = sgn s (i + k) := by
 unfold sgn
 rw [extract_list, List.getD_eq_getElem?_getD, List.getD_eq_getElem?_getD, List.getElem?_drop, List.getElem?_take, if_pos h]
theorem allB_iff (p : UInt8 → Bool) (s : ByteArray) : allB p s = true ↔ ∀ k, k < s.size → p (sgn s k) = true := by
 constructor
 ·intro h k hk; exact all_sgn h hk
 ·intro h
  unfold allB
  rw [List.all_eq_true]
  intro x hx
  obtain ⟨k, hk, rfl⟩ := List.mem_iff_getElem.1 hx
  have := h k (by simpa using hk)
  unfold sgn at this
  rw [List.getD_eq_getElem?_getD, List.getElem?_eq_getElem hk] at this
  exact this
theorem headB_iff (s : ByteArray) : headB s = true ↔ 10 ≤ s.size ∧ ∀ j, j < 10 → hd s j = true := by
 unfold headB
 simp only [Bool.and_eq_true, decide_eq_true_eq, allB_iff]
 constructor
 ·rintro ⟨h1, h2, h3⟩
  refine ⟨h1, fun j hj => ?_⟩
  unfold hd
  split
  ·rename_i h4
   have := h2 j (by simp; omega)
   rwa [sgn_extract s 0 4 j (by omega) (by omega), Nat.zero_add] at this
  ·rename_i h4
   have := h3 (j - 4) (by simp; omega)
   rwa [sgn_extract s 4 10 (j - 4) (by omega) (by omega), show 4 + (j - 4) = j by omega] at this
 ·rintro ⟨h1, h2⟩
  refine ⟨h1, fun k hk => ?_, fun k hk => ?_⟩
  ·have hk' : k < 4 := by simp at hk; omega
   have := h2 k (by omega)
   rw [sgn_extract s 0 4 k (by omega) (by omega), Nat.zero_add]
   unfold hd at this
   rwa [if_pos hk'] at this
  ·have hk' : k < 6 := by simp at hk; omega
   have := h2 (4 + k) (by omega)
   rw [sgn_extract s 4 10 k (by omega) (by omega)]
   unfold hd at this
   rwa [if_neg (by omega)] at this
theorem head_l (s : ByteArray) (hs : 10 ≤ s.size) (d : Nat) : ∀ (k i : Nat), i + d = 10 → d < k →
  supercargoref03_head.l0 k s (i : Int) = some (dec (∀ j, i ≤ j → j < 10 → hd s j = true)) := by
 induction d with
 | zero =>
  intro k i hi hk
  obtain ⟨k, rfl⟩ : ∃ m, k = m + 1 := ⟨k - 1, by omega⟩
  simp only [supercargoref03_head.l0]
  rw [if_neg (by omega)]
  rw [dec_true (fun j h1 h2 => by omega)]
 | succ d ih =>
  intro k i hi hk
  obtain ⟨k, rfl⟩ : ∃ m, k = m + 1 := ⟨k - 1, by omega⟩
  have hw : wrap64 ((i : Int) + 1) = ((i + 1 : Nat) : Int) := by rw [w64 (by omega) (by omega)]; omega
  have hrec := ih k (i + 1) (by omega) (by omega)
  have hstep : ∀ b : Bool, hd s i = b → (if b = true then some (dec (∀ j, i + 1 ≤ j → j < 10 → hd s j = true)) else some false) = some (dec (∀ j, i ≤ j → j < 10 → hd s j = true)) := by
   intro b hb
   cases b with
   | true =>
    rw [if_pos rfl]
    congr 1
    apply dec_congr
    exact ⟨fun h j h1 h2 => if e : j = i then e ▸ hb else h j (by omega) h2, fun h j h1 h2 => h j (by omega) h2⟩
   | false =>
    rw [if_neg (by simp)]
    congr 1
    symm
    exact dec_false fun h => by have := h i (Nat.le_refl _) (by omega); rw [hb] at this; cases this
  simp only [supercargoref03_head.l0]
  rw [if_pos (show (i : Int) < 10 by omega), hw, hrec]
  by_cases h4 : i < 4
  ·rw [if_pos (by omega), if_pos (by omega), if_pos (by omega), bt_sgn, letter_f]
   simp only [Option.bind_some]
   rw [if_neg (show ¬ (i : Int) ≥ 4 by omega)]
   exact hstep _ (by unfold hd; rw [if_pos h4])
  ·rw [if_neg (by omega), if_pos (by omega), if_pos (by omega), if_pos (by omega), bt_sgn, digit_f]
   simp only [Option.bind_some]
   exact hstep _ (by unfold hd; rw [if_neg h4])
theorem head_f (s : ByteArray) (k : Nat) (hk : 11 ≤ k) : supercargoref03_head.f k s = some (headB s) := by
 unfold supercargoref03_head.f
 by_cases hs : 10 ≤ s.size
 ·rw [if_neg (by omega)]
  have h := head_l s hs 10 k 0 rfl (by omega)
  rw [show ((0 : Nat) : Int) = 0 from rfl] at h
  rw [h]
  congr 1
  rw [Bool.eq_iff_iff, dec_iff, headB_iff]
  exact ⟨fun h => ⟨hs, fun j hj => h j (by omega) hj⟩, fun h j _ hj => h.2 j hj⟩
 ·rw [if_pos (by omega)]
  congr 1
  symm
  rw [Bool.eq_false_iff]
  intro h
  exact hs ((headB_iff s).1 h).1
/-! ### sums -/
theorem val_low {c : UInt8} (h : isLow c = true) : valI c = (c.toNat : Int) - 96 := by unfold valI; rw [if_pos h]
theorem low_not_dig {c : UInt8} (h : isDig c = true) : isLow c = false := by
 have : 48 ≤ c.toNat ∧ c.toNat ≤ 57 := by simpa [isDig] using h
 unfold isLow
 simp; omega
theorem val_dig {c : UInt8} (h : isDig c = true) : valI c = (c.toNat : Int) - 48 := by unfold valI; rw [if_neg (by rw [low_not_dig h]; simp), if_pos h]
theorem sum_l (s : ByteArray) (hh : headB s = true) (d : Nat) : ∀ (k i : Nat), i + d = 10 → d < k →
  supercargoref03_Sum.l0 k s (sumK s i) (i : Int) = some (sumK s 10 % 97) := by
 obtain ⟨hs, hj⟩ := (headB_iff s).1 hh
 induction d with
 | zero =>
  intro k i hi hk
  obtain ⟨k, rfl⟩ : ∃ m, k = m + 1 := ⟨k - 1, by omega⟩
  obtain rfl : i = 10 := by omega
  simp only [supercargoref03_Sum.l0]
  rw [if_neg (by omega)]
  have := sumK_range s 10 (Nat.le_refl _)
  rw [Int.tmod_eq_emod_of_nonneg this.1]
 | succ d ih =>
  intro k i hi hk
  obtain ⟨k, rfl⟩ : ∃ m, k = m + 1 := ⟨k - 1, by omega⟩
  have hw : wrap64 ((i : Int) + 1) = ((i + 1 : Nat) : Int) := by rw [w64 (by omega) (by omega)]; omega
  have hb := toNat_lt (sgn s i)
  have hv := valI_range (sgn s i)
  have hm := mul_range (valI (sgn s i)) i hv (by omega)
  have hr := sumK_range s i (by omega)
  have hrec := ih k (i + 1) (by omega) (by omega)
  have hji := hj i (by omega)
  simp only [supercargoref03_Sum.l0]
  rw [if_pos (by omega), if_pos (by omega), if_pos (by omega), bt_sgn, hw]
  rw [w64 (x := ((sgn s i).toNat : Int)) (by omega) (by omega)]
  have hfin : ∀ v : Int, v = valI (sgn s i) → wrap64 (sumK s i + wrap64 (wrap64 v * ((i + 1 : Nat) : Int))) = sumK s (i + 1) := by
   intro v hv'
   subst hv'
   rw [w64 (x := valI (sgn s i)) (by omega) (by omega), show ((i + 1 : Nat) : Int) = (i : Int) + 1 by omega, w64 (x := valI (sgn s i) * ((i : Int) + 1)) (by omega) (by omega), w64 (by omega) (by omega)]
   rfl
  by_cases h4 : i < 4
  ·rw [if_pos (by omega), hfin _ (by rw [val_low (by unfold hd at hji; rwa [if_pos h4] at hji)])]
   exact hrec
  ·rw [if_neg (by omega), hfin _ (by rw [val_dig (by unfold hd at hji; rwa [if_neg h4] at hji)])]
   exact hrec
theorem sum_f (s : ByteArray) (k : Nat) (hk : 11 ≤ k) : supercargoref03_Sum.f k s = some (sumB s) := by
 unfold supercargoref03_Sum.f
 rw [head_f s k hk]
 simp only [Option.bind_some]
 unfold sumB
 by_cases hh : headB s = true
 ·rw [if_pos hh, if_pos hh]
  exact sum_l s hh 10 k 0 rfl (by omega)
 ·rw [if_neg hh, if_neg hh]
/-! ### right marks -/
theorem num_two (s : ByteArray) (h : s.size = 12) : numK (s.extract 10 12) 2 = valI (sgn s 10) * 10 + valI (sgn s 11) := by
 simp only [numK]
 rw [sgn_extract s 10 12 0 (by omega) (by omega), sgn_extract s 10 12 1 (by omega) (by omega)]
 simp only [Nat.add_zero, Nat.reduceAdd]
 omega
theorem rightB_iff (s : ByteArray) : rightB s = true ↔ s.size = 12 ∧ isDig (sgn s 10) = true ∧ isDig (sgn s 11) = true ∧ sumB s = valI (sgn s 10) * 10 + valI (sgn s 11) := by
 unfold rightB
 simp only [Bool.and_eq_true, decide_eq_true_eq, allB_iff]
 constructor
 ·rintro ⟨h1, h2, h3⟩
  have hz : (s.extract 10 12).size = 2 := by simp [h1]
  have e0 := h2 0 (by omega)
  have e1 := h2 1 (by omega)
  rw [sgn_extract s 10 12 0 (by omega) (by omega)] at e0
  rw [sgn_extract s 10 12 1 (by omega) (by omega)] at e1
  exact ⟨h1, e0, e1, by rw [h3, num_two s h1]⟩
 ·rintro ⟨h1, h2, h3, h4⟩
  have hz : (s.extract 10 12).size = 2 := by simp [h1]
  refine ⟨h1, fun k hk => ?_, by rw [h4, num_two s h1]⟩
  rw [sgn_extract s 10 12 k (by omega) (by omega)]
  obtain rfl | rfl : k = 0 ∨ k = 1 := by omega
  ·exact h2
  ·exact h3
theorem right_head {s : ByteArray} (h : rightB s = true) : headB s = true := by
 obtain ⟨h1, h2, h3, h4⟩ := (rightB_iff s).1 h
 have a := valI_dig _ h2
 have b := valI_dig _ h3
 by_cases hh : headB s = true
 ·exact hh
 ·unfold sumB at h4
  rw [if_neg hh] at h4
  omega
theorem right_f (s : ByteArray) (k : Nat) (hk : 11 ≤ k) : supercargoref03_Right.f k s = some (rightB s) := by
 unfold supercargoref03_Right.f
 by_cases h12 : s.size = 12
 ·rw [if_pos (by omega), head_f s k hk]
  simp only [Option.bind_some]
  have no : ∀ (_ : ¬ rightB s = true), some false = some (rightB s) := fun h => by rw [Bool.not_eq_true] at h; rw [h]
  by_cases hh : headB s = true
  ·rw [if_pos hh, if_pos (by omega), show (10 : Int) = ((10 : Nat) : Int) from rfl, bt_sgn, digit_f]
   simp only [Option.bind_some]
   by_cases h10 : isDig (sgn s 10) = true
   ·rw [if_pos h10, if_pos (by omega), show (11 : Int) = ((11 : Nat) : Int) from rfl, bt_sgn, digit_f]
    simp only [Option.bind_some]
    by_cases h11 : isDig (sgn s 11) = true
    ·rw [if_pos h11, sum_f s k hk]
     simp only [Option.bind_some]
     have b0 := toNat_lt (sgn s 10)
     have b1 := toNat_lt (sgn s 11)
     have e0 := val_dig h10
     have e1 := val_dig h11
     rw [w64 (x := ((sgn s 10).toNat : Int)) (by omega) (by omega), w64 (x := ((sgn s 11).toNat : Int)) (by omega) (by omega), w64 (x := ((sgn s 10).toNat : Int) - 48) (by omega) (by omega),
      w64 (x := ((10 : Nat) : Int) * (((sgn s 10).toNat : Int) - 48)) (by omega) (by omega), w64 (x := ((10 : Nat) : Int) * (((sgn s 10).toNat : Int) - 48) + ((sgn s 11).toNat : Int)) (by omega) (by omega), w64 (by omega) (by omega)]
     congr 1
     rw [Bool.eq_iff_iff, beq_iff_eq, rightB_iff]
     constructor
     ·intro h; exact ⟨h12, h10, h11, by rw [h, e0, e1]; omega⟩
     ·intro h; rw [h.2.2.2, e0, e1]; omega
    ·rw [if_neg h11]; exact no fun h => h11 ((rightB_iff s).1 h).2.2.1
   ·rw [if_neg h10]; exact no fun h => h10 ((rightB_iff s).1 h).2.1
  ·rw [if_neg hh]; exact no fun h => hh (right_head h)
 ·rw [if_neg (by omega)]
  congr 1
  symm
  rw [Bool.eq_false_iff]
  exact fun h => h12 ((rightB_iff s).1 h).1
/-! ### names -/
theorem nameB_iff (s : ByteArray) : nameB s = true ↔ 1 ≤ s.size ∧ s.size ≤ 16 ∧ ∀ k, k < s.size → isSign (sgn s k) = true := by
 unfold nameB
 simp only [Bool.and_eq_true, decide_eq_true_eq, allB_iff]
theorem name_l (s : ByteArray) (hs : s.size ≤ 9223372036854775806) (d : Nat) : ∀ (k i : Nat), i + d = s.size → d < k →
  supercargoref03_Name.l0 k s (i : Int) = some (decide (1 ≤ s.size) && decide (s.size ≤ 16) && dec (∀ j, i ≤ j → j < s.size → isSign (sgn s j) = true)) := by
 induction d with
 | zero =>
  intro k i hi hk
  obtain ⟨k, rfl⟩ : ∃ m, k = m + 1 := ⟨k - 1, by omega⟩
  simp only [supercargoref03_Name.l0]
  rw [if_neg (by omega)]
  rw [dec_true (p := ∀ j, i ≤ j → j < s.size → isSign (sgn s j) = true) (fun j h1 h2 => by omega), Bool.and_true]
  by_cases h1 : 1 ≤ s.size
  ·rw [if_pos (by omega)]
   congr 1
   simp only [h1, decide_true, Bool.true_and]
   rw [decide_eq_decide]
   omega
  ·rw [if_neg (by omega)]
   simp [h1]
 | succ d ih =>
  intro k i hi hk
  obtain ⟨k, rfl⟩ : ∃ m, k = m + 1 := ⟨k - 1, by omega⟩
  have hw : wrap64 ((i : Int) + 1) = ((i + 1 : Nat) : Int) := by rw [w64 (by omega) (by omega)]; omega
  have hrec := ih k (i + 1) (by omega) (by omega)
  simp only [supercargoref03_Name.l0]
  rw [if_pos (by omega), if_pos (by omega), hw, hrec, bt_sgn, letter_f, digit_f]
  simp only [Option.bind_some]
  have yes : isSign (sgn s i) = true → some (decide (1 ≤ s.size) && decide (s.size ≤ 16) && dec (∀ j, i + 1 ≤ j → j < s.size → isSign (sgn s j) = true)) = some (decide (1 ≤ s.size) && decide (s.size ≤ 16) && dec (∀ j, i ≤ j → j < s.size → isSign (sgn s j) = true)) := by
   intro h
   congr 2
   apply dec_congr
   exact ⟨fun g j h1 h2 => if e : j = i then e ▸ h else g j (by omega) h2, fun g j h1 h2 => g j (by omega) h2⟩
  cases h1 : isLow (sgn s i) with
  | true => rw [if_pos rfl]; exact yes (by simp [isSign, h1])
  | false =>
   rw [if_neg (by simp)]
   cases h2 : isDig (sgn s i) with
   | true => rw [if_pos rfl]; exact yes (by simp [isSign, h2])
   | false =>
    rw [if_neg (by simp)]
    by_cases h3 : ((sgn s i).toNat : Int) = 45
    ·rw [if_pos h3]; exact yes (by simp [isSign, h3])
    ·rw [if_neg h3]
     congr 1
     rw [dec_false (p := ∀ j, i ≤ j → j < s.size → isSign (sgn s j) = true), Bool.and_false]
     intro h
     have := h i (Nat.le_refl _) (by omega)
     simp [isSign, h1, h2] at this
     exact h3 (by omega)
theorem name_f (s : ByteArray) (hs : s.size ≤ 9223372036854775806) (k : Nat) (hk : s.size < k) : supercargoref03_Name.f k s = some (nameB s) := by
 unfold supercargoref03_Name.f
 have h := name_l s hs s.size k 0 (by omega) hk
 rw [show ((0 : Nat) : Int) = 0 from rfl] at h
 rw [h]
 congr 1
 rw [Bool.eq_iff_iff, nameB_iff]
 simp only [Bool.and_eq_true, decide_eq_true_eq, dec_iff]
 exact ⟨fun ⟨⟨a, b⟩, c⟩ => ⟨a, b, fun j hj => c j (Nat.zero_le _) hj⟩, fun ⟨a, b, c⟩ => ⟨⟨a, b⟩, fun j _ hj => c j hj⟩⟩
end Go.Proofs.YtfflbeenkfaemaaGreatDoor.Ref
namespace Go.Proofs.YtfflbeenkfaemaaGreatDoor.Ref
open Go.RowKit Go.Proofs.YtfflbeenkfaemaaGreatDoor.Ext Go.Proofs.YtfflbeenkfaemaaGreatDoor.X Go.Proofs.YtfflbeenkfaemaaGreatDoorW.PrintWords
theorem rd30 (l : List X.S30) (i : Nat) (h : i < l.length) : rd_T30 l (i : Int) = l[i] := by simp [rd_T30, List.getD, List.getElem?_eq_getElem h]
/-- Where a good stands. -/
theorem find_l (gs : List X.S30) (hg : gs.length ≤ 1000000) (c : ByteArray) (d : Nat) : ∀ (k i : Nat), i + d = gs.length → d < k → (∀ g ∈ gs.take i, g.f0 ≠ c) →
  ∃ r, supercargoref11_Find.l0 k gs c (i : Int) = some r ∧ ((hasG gs c = true ∧ 0 ≤ r ∧ r < (gs.length : Int) ∧ rd_T30 gs r = getG gs c) ∨ (hasG gs c = false ∧ r = -1)) := by
 induction d with
 | zero =>
  intro k i hi hk ht
  obtain ⟨k, rfl⟩ : ∃ m, k = m + 1 := ⟨k - 1, by omega⟩
  simp only [supercargoref11_Find.l0]
  rw [if_neg (by omega)]
  refine ⟨_, rfl, .inr ⟨?_, rfl⟩⟩
  rw [List.take_of_length_le (by omega)] at ht
  unfold hasG findG
  rw [Option.isSome_eq_false_iff, Option.isNone_iff_eq_none, List.find?_eq_none]
  intro g hg2
  simpa using ht g hg2
 | succ d ih =>
  intro k i hi hk ht
  obtain ⟨k, rfl⟩ : ∃ m, k = m + 1 := ⟨k - 1, by omega⟩
  have hlt : i < gs.length := by omega
  simp only [supercargoref11_Find.l0]
  rw [if_pos (by omega), if_pos (by omega), rd30 gs i hlt]
  by_cases he : gs[i].f0 = c
  ·rw [if_pos ((bytes_iff _ _).2 he)]
   have hf : findG gs c = some gs[i] := by
    unfold findG
    rw [List.find?_eq_some_iff_getElem]
    refine ⟨by simpa using he, i, hlt, rfl, fun j hj => ?_⟩
    have : gs[j] ∈ gs.take i := List.mem_take_iff_getElem.2 ⟨j, by omega, rfl⟩
    simpa using ht _ this
   refine ⟨_, rfl, .inl ⟨?_, by omega, by omega, ?_⟩⟩
   ·unfold hasG
    rw [hf]
    rfl
   ·rw [rd30 gs i hlt]
    unfold getG
    rw [hf]
    rfl
  ·rw [if_neg (fun h => he ((bytes_iff _ _).1 h)), wn hlt (by omega)]
   refine ih k (i + 1) (by omega) (by omega) fun g hg2 => ?_
   rw [List.take_add_one, List.getElem?_eq_getElem hlt, List.mem_append] at hg2
   rcases hg2 with h | h
   ·exact ht g h
   ·simp at h
    rw [h]
    exact he
theorem find_f (gs : List X.S30) (hg : gs.length ≤ 1000000) (c : ByteArray) (k : Nat) (hk : gs.length < k) :
  ∃ r, supercargoref11_Find.f k gs c = some r ∧ ((hasG gs c = true ∧ 0 ≤ r ∧ r < (gs.length : Int) ∧ rd_T30 gs r = getG gs c) ∨ (hasG gs c = false ∧ r = -1)) := by
 unfold supercargoref11_Find.f
 rw [show (0 : Int) = ((0 : Nat) : Int) from rfl]
 exact find_l gs hg c gs.length k 0 (by omega) hk (fun g h => by simp at h)
theorem miss_has {gs : List X.S30} (hok : GoodsOk gs) (x : X.S55) : missB gs x = !hasG gs x.f0 := by
 unfold missB hasG getG
 cases h : findG gs x.f0 with
 | none =>
  show zeroG.f0.toList.isEmpty = true
  rw [ByteArray.toList_eq]
  rfl
 | some g =>
  show g.f0.toList.isEmpty = false
  have hg : g ∈ gs := by
   unfold findG at h
   exact List.mem_of_find?_eq_some h
  have hn := (nameB_iff _).1 (hok g hg).1
  rw [ByteArray.toList_eq]
  have : g.f0.data.toList ≠ [] := fun e => by
   have h1 : g.f0.size = 0 := by
    show g.f0.data.size = 0
    rw [← Array.length_toList, e]
    rfl
   omega
  cases h2 : g.f0.data.toList with
  | nil => exact absurd h2 this
  | cons a b => rfl
theorem lot_f (s : ByteArray) (n : Int) (hs : s.size ≤ 60) (k : Nat) (hk : 61 ≤ k) : supercargoref11_Lot.f k s n = some (!badB ⟨s, n⟩) := by
 unfold supercargoref11_Lot.f badB cntB
 rw [name_f s (by omega) k (by omega), Option.bind_some]
 simp only
 cases nameB s with
 | false => simp
 | true =>
  by_cases h1 : 1 ≤ n
  ·simp [h1]
  ·simp [h1]
/-- Lots as a call of the document takes them: few, short. -/
structure Shrt (l : List X.S55) : Prop where
 len : l.length ≤ 50
 size : ∀ x ∈ l, x.f0.size ≤ 60
theorem there_l1 (gs : List X.S30) (hok : GoodsOk gs) (hg : gs.length ≤ 12) (l : List X.S55) (hl : Shrt l) (d : Nat) : ∀ (k i : Nat), i + d = l.length → d + 13 < k →
  supercargoref11_there.l1 k gs l (i : Int) = some (if (l.drop i).any (missB gs) = true then 4 else 0) := by
 induction d with
 | zero =>
  intro k i hi hk
  obtain ⟨k, rfl⟩ : ∃ m, k = m + 1 := ⟨k - 1, by omega⟩
  simp only [supercargoref11_there.l1]
  rw [if_neg (by omega), List.drop_eq_nil_of_le (by omega)]
  rfl
 | succ d ih =>
  intro k i hi hk
  obtain ⟨k, rfl⟩ : ∃ m, k = m + 1 := ⟨k - 1, by omega⟩
  have hlt : i < l.length := by omega
  have hln := hl.len
  simp only [supercargoref11_there.l1]
  obtain ⟨r, hr, hc⟩ := find_f gs (by omega) l[i].f0 k (by omega)
  rw [if_pos (by omega), if_pos (by omega), rd55 l i hlt, hr, Option.bind_some, List.drop_eq_getElem_cons hlt, List.any_cons, miss_has hok]
  rcases hc with ⟨h1, h2, _, _⟩ | ⟨h1, h2⟩
  ·rw [if_neg (by omega), h1, wn hlt (by omega), ih k (i + 1) (by omega) (by omega)]
   rfl
  ·rw [if_pos (by omega), h1]
   rfl
theorem there_l0 (gs : List X.S30) (hok : GoodsOk gs) (hg : gs.length ≤ 12) (l : List X.S55) (hl : Shrt l) (d : Nat) : ∀ (k i : Nat), i + d = l.length → d + 80 + l.length < k →
  supercargoref11_there.l0 k gs l (i : Int) = some (if (l.drop i).any badB = true then 1 else if l.any (missB gs) = true then 4 else 0) := by
 induction d with
 | zero =>
  intro k i hi hk
  obtain ⟨k, rfl⟩ : ∃ m, k = m + 1 := ⟨k - 1, by omega⟩
  simp only [supercargoref11_there.l0]
  rw [if_neg (by omega), show (0 : Int) = ((0 : Nat) : Int) from rfl, there_l1 gs hok hg l hl l.length k 0 (by omega) (by omega), List.drop_eq_nil_of_le (show l.length ≤ i by omega)]
  rfl
 | succ d ih =>
  intro k i hi hk
  obtain ⟨k, rfl⟩ : ∃ m, k = m + 1 := ⟨k - 1, by omega⟩
  have hlt : i < l.length := by omega
  have hln := hl.len
  simp only [supercargoref11_there.l0]
  rw [if_pos (by omega), if_pos (by omega), rd55 l i hlt, lot_f _ _ (hl.size _ (List.getElem_mem hlt)) k (by omega), Option.bind_some, List.drop_eq_getElem_cons hlt, List.any_cons]
  show (if (!badB l[i]) = true then _ else _) = _
  cases hb : badB l[i] with
  | true => rfl
  | false =>
   rw [if_pos (show (!false) = true from rfl), wn hlt (by omega), ih k (i + 1) (by omega) (by omega)]
   rfl
theorem there_f (gs : List X.S30) (hok : GoodsOk gs) (hg : gs.length ≤ 12) (l : List X.S55) (hl : Shrt l) (k : Nat) (hk : 200 ≤ k) : supercargoref11_there.f k gs l = some (knownB gs l) := by
 have hln := hl.len
 unfold supercargoref11_there.f
 rw [show (0 : Int) = ((0 : Nat) : Int) from rfl, there_l0 gs hok hg l hl l.length k 0 (by omega) (by omega)]
 rfl
theorem has_get {gs : List X.S30} {c : ByteArray} (h : hasG gs c = true) : getG gs c ∈ gs := by
 unfold hasG at h
 unfold getG
 cases hf : findG gs c with
 | none => rw [hf] at h; cases h
 | some g =>
  unfold findG at hf
  exact List.mem_of_find?_eq_some hf
theorem known_cnt {gs : List X.S30} {l : List X.S55} (h : knownB gs l = 0) : ∀ x ∈ l, nameB x.f0 = true ∧ 1 ≤ x.f1 ∧ x.f1 ≤ 1048576 := fun x hx => by
 unfold knownB at h
 split at h
 ·omega
 ·rename_i h1
  have h2 : badB x = false := by
   cases hb : badB x with
   | false => rfl
   | true => exact absurd (List.any_eq_true.2 ⟨x, hx, hb⟩) h1
  unfold badB cntB at h2
  simp only [Bool.or_eq_false_iff, Bool.not_eq_false', Bool.and_eq_true, decide_eq_true_eq] at h2
  exact ⟨h2.1, h2.2.1, h2.2.2⟩
theorem term_range {gs : List X.S30} (hok : GoodsOk gs) {l : List X.S55} (hk : knownB gs l = 0) (vol : Bool) {x : X.S55} (hx : x ∈ l) :
  1 ≤ termG gs (if vol = true then X.S30.f3 else X.S30.f2) x ∧ termG gs (if vol = true then X.S30.f3 else X.S30.f2) x ≤ 1099511627776 := by
 have h1 := known_cnt hk x hx
 have h2 := hok _ (has_get (known_has hk hx))
 unfold termG
 have : ∀ o : Int, 1 ≤ o → o ≤ 1048576 → 1 ≤ x.f1 * o ∧ x.f1 * o ≤ 1099511627776 := fun o a b => by
  constructor
  ·exact Int.le_trans (by omega) (Int.mul_le_mul h1.2.1 a (by omega) (by omega))
  ·exact Int.le_trans (Int.mul_le_mul h1.2.2 b (by omega) (by omega)) (by omega)
 cases vol
 ·exact this _ h2.2.2.2.1 h2.2.2.2.2.1
 ·exact this _ h2.2.2.2.2.2.1 h2.2.2.2.2.2.2
theorem wsum_take_le {gs : List X.S30} {of : X.S30 → Int} {l : List X.S55} {m : Int} (h : ∀ x ∈ l, 1 ≤ termG gs of x ∧ termG gs of x ≤ m) : 0 ≤ wsum gs of l ∧ wsum gs of l ≤ m * l.length := by
 induction l with
 | nil => simp [wsum_nil]
 | cons x l ih =>
  have h1 := h x List.mem_cons_self
  have h2 := ih fun y hy => h y (List.mem_cons_of_mem _ hy)
  rw [wsum_cons, List.length_cons]
  have : m * ((l.length + 1 : Nat) : Int) = m * (l.length : Int) + m := by rw [Int.natCast_add, Int.mul_add]; simp
  omega
theorem sum_l0 (gs : List X.S30) (hok : GoodsOk gs) (hg : gs.length ≤ 12) (l : List X.S55) (hl : Shrt l) (hkn : knownB gs l = 0) (vol : Bool) (d : Nat) : ∀ (k i : Nat), i + d = l.length → d + 13 < k →
  supercargoref11_Sum.l0 k gs l vol (wsum gs (if vol = true then X.S30.f3 else X.S30.f2) (l.take i)) (i : Int) = some (if wsum gs (if vol = true then X.S30.f3 else X.S30.f2) l ≤ 1099511627776 then (wsum gs (if vol = true then X.S30.f3 else X.S30.f2) l, 0) else (0, 3)) := by
 have hln := hl.len
 induction d with
 | zero =>
  intro k i hi hk
  obtain ⟨k, rfl⟩ : ∃ m, k = m + 1 := ⟨k - 1, by omega⟩
  simp only [supercargoref11_Sum.l0]
  rw [if_neg (by omega), List.take_of_length_le (by omega)]
  by_cases h : wsum gs (if vol = true then X.S30.f3 else X.S30.f2) l ≤ 1099511627776
  ·rw [if_neg (by omega), if_pos h]
  ·rw [if_pos (by omega), if_neg h]
 | succ d ih =>
  intro k i hi hk
  obtain ⟨k, rfl⟩ : ∃ m, k = m + 1 := ⟨k - 1, by omega⟩
  have hlt : i < l.length := by omega
  obtain ⟨r, hr, hc⟩ := find_f gs (by omega) l[i].f0 k (by omega)
  have hh := known_has hkn (List.getElem_mem hlt)
  obtain ⟨h1, h2, h3, h4⟩ : hasG gs l[i].f0 = true ∧ 0 ≤ r ∧ r < (gs.length : Int) ∧ rd_T30 gs r = getG gs l[i].f0 := by
   rcases hc with h | ⟨h, _⟩
   ·exact h
   ·rw [hh] at h; cases h
  have ht := term_range hok hkn vol (List.getElem_mem hlt)
  have hw := wsum_take_le (l := l.take i) fun x hx => term_range hok hkn vol (List.mem_of_mem_take hx)
  have hlen : (l.take i).length = i := by rw [List.length_take]; omega
  rw [hlen] at hw
  have e := wsum_next gs (if vol = true then X.S30.f3 else X.S30.f2) l i hlt
  rw [rd55 l i hlt] at e
  simp only [supercargoref11_Sum.l0]
  rw [if_pos (by omega), if_pos (by omega), rd55 l i hlt, hr, Option.bind_some, if_pos h2, if_pos h3, h4, wn hlt (by omega)]
  have step : ∀ o : Int, o * l[i].f1 = termG gs (if vol = true then X.S30.f3 else X.S30.f2) l[i] → wrap64 (wsum gs (if vol = true then X.S30.f3 else X.S30.f2) (l.take i) + wrap64 (o * l[i].f1)) = wsum gs (if vol = true then X.S30.f3 else X.S30.f2) (l.take (i + 1)) := fun o ho => by
   rw [ho, w64' (x := termG gs (if vol = true then X.S30.f3 else X.S30.f2) l[i]) (by omega) (by omega), w64' (by omega) (by omega), e]
  cases vol with
  | true =>
   rw [if_pos rfl, step _ (by unfold termG; rw [if_pos rfl, Int.mul_comm])]
   exact ih k (i + 1) (by omega) (by omega)
  | false =>
   rw [if_neg (by simp), step _ (by unfold termG; rw [if_neg (by simp), Int.mul_comm])]
   exact ih k (i + 1) (by omega) (by omega)
theorem sum_fk (gs : List X.S30) (hok : GoodsOk gs) (hg : gs.length ≤ 12) (l : List X.S55) (hl : Shrt l) (vol : Bool) (k : Nat) (hk : 200 ≤ k) :
  supercargoref11_Sum.f k gs l vol = some (sumG gs (if vol = true then X.S30.f3 else X.S30.f2) l) := by
 have hln := hl.len
 unfold supercargoref11_Sum.f sumG
 rw [there_f gs hok hg l hl k hk, Option.bind_some]
 by_cases h : knownB gs l = 0
 ·rw [if_pos h, if_pos h]
  have := sum_l0 gs hok hg l hl h vol l.length k 0 (by omega) (by omega)
  rw [List.take_zero, wsum_nil] at this
  exact this
 ·rw [if_neg h, if_neg h]
/-! ### apart, together -/
theorem apart_20 : ∀ a b : Fin 10, supercargoref11_Apart.f 20 (a.val : Int) (b.val : Int) = some (apartB (a.val : Int) (b.val : Int)) := by decide +kernel
theorem apart_f (a b : Int) (ha : 0 ≤ a ∧ a ≤ 9) (hb : 0 ≤ b ∧ b ≤ 9) (k : Nat) (hk : 20 ≤ k) : supercargoref11_Apart.f k a b = some (apartB a b) := by
 obtain ⟨x, rfl⟩ : ∃ x : Nat, a = x := ⟨a.toNat, by omega⟩
 obtain ⟨y, rfl⟩ : ∃ y : Nat, b = y := ⟨b.toNat, by omega⟩
 have h0 := apart_20 ⟨x, by omega⟩ ⟨y, by omega⟩
 obtain ⟨d, rfl⟩ : ∃ d, k = 20 + d := ⟨k - 20, by omega⟩
 clear hk
 induction d with
 | zero => exact h0
 | succ d ih => exact supercargoref11_Apart.mono _ _ (20 + d) _ (ih h0)
/-- Does a lot lie apart from one ahead of it? -/
def pairAt (gs : List X.S30) (l : List X.S55) (i : Nat) : Bool := (l.take i).any fun y => (l[i]?).any fun x => apartB (clsOf gs x) (clsOf gs y)
def pairsFrom (gs : List X.S30) (l : List X.S55) : Nat → Nat → Bool
 | 0, _ => false
 | d + 1, i => pairAt gs l i || pairsFrom gs l d (i + 1)
theorem tog_l (gs : List X.S30) (hok : GoodsOk gs) (hg : gs.length ≤ 12) (l : List X.S55) (hl : Shrt l) (hkn : knownB gs l = 0) (d : Nat) : ∀ (k i : Nat), i + d = l.length → d * 60 + 60 < k →
  supercargoref11_Together.l0 k gs l (i : Int) = some (if pairsFrom gs l d i = true then 12 else 0) := by
 have hln := hl.len
 have cls : ∀ x ∈ l, 0 ≤ clsOf gs x ∧ clsOf gs x ≤ 9 := fun x hx => by
  have := hok _ (has_get (known_has hkn hx))
  exact ⟨this.2.1, this.2.2.1⟩
 induction d with
 | zero =>
  intro k i hi hk
  obtain ⟨k, rfl⟩ : ∃ m, k = m + 1 := ⟨k - 1, by omega⟩
  simp only [supercargoref11_Together.l0]
  rw [if_neg (by omega)]
  rfl
 | succ d ih =>
  intro k i hi hk
  obtain ⟨k, rfl⟩ : ∃ m, k = m + 1 := ⟨k - 1, by omega⟩
  have hlt : i < l.length := by omega
  have inner : ∀ (e k j : Nat), j + e = i → d * 60 + 60 + e + 1 < k →
    supercargoref11_Together.l1 k gs l (i : Int) (j : Int) = some (if (((l.take i).drop j).any (fun y => apartB (clsOf gs l[i]) (clsOf gs y)) || pairsFrom gs l d (i + 1)) = true then 12 else 0) := by
   intro e
   induction e with
   | zero =>
    intro k j hj hk
    obtain ⟨k, rfl⟩ : ∃ m, k = m + 1 := ⟨k - 1, by omega⟩
    simp only [supercargoref11_Together.l1]
    rw [if_neg (by omega), wn hlt (by omega), ih k (i + 1) (by omega) (by omega), List.drop_eq_nil_of_le (by rw [List.length_take]; omega)]
    rfl
   | succ e ih2 =>
    intro k j hj hk
    obtain ⟨k, rfl⟩ : ∃ m, k = m + 1 := ⟨k - 1, by omega⟩
    have hjl : j < l.length := by omega
    obtain ⟨r, hr, hc⟩ := find_f gs (by omega) l[i].f0 k (by omega)
    obtain ⟨s, hs, hd⟩ := find_f gs (by omega) l[j].f0 k (by omega)
    have hh := known_has hkn (List.getElem_mem hlt)
    have hh2 := known_has hkn (List.getElem_mem hjl)
    obtain ⟨_, r2, r3, r4⟩ : hasG gs l[i].f0 = true ∧ 0 ≤ r ∧ r < (gs.length : Int) ∧ rd_T30 gs r = getG gs l[i].f0 := by
     rcases hc with h | ⟨h, _⟩
     ·exact h
     ·rw [hh] at h; cases h
    obtain ⟨_, s2, s3, s4⟩ : hasG gs l[j].f0 = true ∧ 0 ≤ s ∧ s < (gs.length : Int) ∧ rd_T30 gs s = getG gs l[j].f0 := by
     rcases hd with h | ⟨h, _⟩
     ·exact h
     ·rw [hh2] at h; cases h
    have c1 := cls _ (List.getElem_mem hlt)
    have c2 := cls _ (List.getElem_mem hjl)
    simp only [supercargoref11_Together.l1]
    rw [if_pos (by omega), if_pos (by omega), if_pos (by omega), rd55 l i hlt, hr, Option.bind_some, if_pos r2, if_pos r3, if_pos (by omega), if_pos (by omega), rd55 l j hjl, hs, Option.bind_some, if_pos s2, if_pos s3, r4, s4]
    have ha := apart_f (clsOf gs l[i]) (clsOf gs l[j]) c1 c2 k (by omega)
    unfold clsOf at ha
    have hdr : (l.take i).drop j = l[j] :: (l.take i).drop (j + 1) := by
     rw [List.drop_eq_getElem_cons (by rw [List.length_take]; omega), List.getElem_take]
    rw [ha, Option.bind_some, hdr, List.any_cons]
    cases hb : apartB (getG gs l[i].f0).f1 (getG gs l[j].f0).f1 with
    | true =>
     have : apartB (clsOf gs l[i]) (clsOf gs l[j]) = true := hb
     rw [if_pos rfl, this]
     rfl
    | false =>
     have : apartB (clsOf gs l[i]) (clsOf gs l[j]) = false := hb
     rw [if_neg (by simp), this, wn hjl (by omega), ih2 k (j + 1) (by omega) (by omega)]
     rfl
  simp only [supercargoref11_Together.l0]
  rw [if_pos (by omega), show (0 : Int) = ((0 : Nat) : Int) from rfl, inner i k 0 (by omega) (by omega)]
  have : pairAt gs l i = ((l.take i).drop 0).any (fun y => apartB (clsOf gs l[i]) (clsOf gs y)) := by
   unfold pairAt
   rw [List.getElem?_eq_getElem hlt]
   rfl
  show _ = some (if (pairAt gs l i || pairsFrom gs l d (i + 1)) = true then 12 else 0)
  rw [this]
theorem pairs_iff (gs : List X.S30) (l : List X.S55) (d : Nat) : ∀ i, i + d = l.length → (pairsFrom gs l d i = true ↔ ∃ a b, i ≤ a ∧ b < a ∧ ∃ x y, l[a]? = some x ∧ l[b]? = some y ∧ apartB (clsOf gs x) (clsOf gs y) = true) := by
 induction d with
 | zero =>
  intro i hi
  constructor
  ·intro h
   cases h
  ·rintro ⟨a, b, h1, h2, x, y, h3, _⟩
   have := (List.getElem?_eq_some_iff.1 h3).1
   omega
 | succ d ih =>
  intro i hi
  show (pairAt gs l i || pairsFrom gs l d (i + 1)) = true ↔ _
  rw [Bool.or_eq_true, ih (i + 1) (by omega)]
  constructor
  ·rintro (h | ⟨a, b, h1, h2⟩)
   ·unfold pairAt at h
    rw [List.any_eq_true] at h
    obtain ⟨y, hy, h2⟩ := h
    obtain ⟨b, hb, rfl⟩ := List.getElem_of_mem hy
    rw [List.length_take] at hb
    rw [List.getElem_take] at h2
    cases hx : l[i]? with
    | none => rw [hx] at h2; cases h2
    | some x =>
     rw [hx] at h2
     exact ⟨i, b, Nat.le_refl _, by omega, x, _, hx, List.getElem?_eq_getElem (by omega), h2⟩
   ·exact ⟨a, b, by omega, h2⟩
  ·rintro ⟨a, b, h1, h2, x, y, h3, h4, h5⟩
   by_cases ha : a = i
   ·subst ha
    left
    unfold pairAt
    rw [List.any_eq_true]
    refine ⟨y, List.mem_take_iff_getElem.2 ⟨b, ?_, ?_⟩, ?_⟩
    ·have := (List.getElem?_eq_some_iff.1 h3).1
     omega
    ·exact (List.getElem?_eq_some_iff.1 h4).2
    ·rw [h3]
     exact h5
   ·exact .inr ⟨a, b, by omega, h2, x, y, h3, h4, h5⟩
theorem pairs_any (gs : List X.S30) (l : List X.S55) : pairsFrom gs l l.length 0 = anyApart gs l := by
 rw [Bool.eq_iff_iff, pairs_iff gs l l.length 0 (by omega)]
 unfold anyApart
 rw [List.any_eq_true]
 constructor
 ·rintro ⟨a, b, _, _, x, y, hx, hy, h⟩
  exact ⟨x, List.mem_of_getElem? hx, List.any_eq_true.2 ⟨y, List.mem_of_getElem? hy, h⟩⟩
 ·rintro ⟨x, hx, h⟩
  rw [List.any_eq_true] at h
  obtain ⟨y, hy, h⟩ := h
  obtain ⟨a, ha, rfl⟩ := List.getElem_of_mem hx
  obtain ⟨b, hb, rfl⟩ := List.getElem_of_mem hy
  rcases Nat.lt_trichotomy a b with q | q | q
  ·rw [apartB_comm] at h
   exact ⟨b, a, by omega, q, _, _, List.getElem?_eq_getElem hb, List.getElem?_eq_getElem ha, h⟩
  ·subst q
   rw [apartB_self] at h
   cases h
  ·exact ⟨a, b, by omega, q, _, _, List.getElem?_eq_getElem ha, List.getElem?_eq_getElem hb, h⟩
theorem together_f (gs : List X.S30) (hok : GoodsOk gs) (hg : gs.length ≤ 12) (l : List X.S55) (hl : Shrt l) (k : Nat) (hk : 3100 ≤ k) : supercargoref11_Together.f k gs l = some (togB gs l) := by
 have hln := hl.len
 unfold supercargoref11_Together.f togB
 rw [there_f gs hok hg l hl k (by omega), Option.bind_some]
 by_cases h : knownB gs l = 0
 ·rw [if_pos h, if_pos h, show (0 : Int) = ((0 : Nat) : Int) from rfl, tog_l gs hok hg l hl h l.length k 0 (by omega) (by omega), pairs_any]
  rfl
 ·rw [if_neg h, if_neg h]
/-! ### into a box -/
theorem go_f (gs : List X.S30) (hok : GoodsOk gs) (hg : gs.length ≤ 12) (kind : Int) (l : List X.S55) (hl : Shrt l) (hw : ∀ x ∈ l, x.f1 ≤ 9223372036854775807) (k : Nat) (hk : 3200 ≤ k) : supercargoref12_Go.f k gs kind l = some (goB gs kind l) := by
 have hln := hl.len
 obtain ⟨k, rfl⟩ : ∃ m, k = m + 1 := ⟨k - 1, by omega⟩
 have h1 : (roomB kind).1 = 0 ∨ 0 < (roomB kind).1 := by
  unfold roomB
  split
  ·exact .inr (by decide)
  ·split
   ·exact .inr (by decide)
   ·exact .inl rfl
 have hoff : ¬ (kind = 0 ∨ kind = 1) → goB gs kind l = false := fun h => by
  have : (roomB kind).1 = 0 := by unfold roomB; rw [if_neg (fun e => h (.inl e)), if_neg (fun e => h (.inr e))]
  unfold goB
  rw [this]
  rfl
 have inside : (kind = 0 ∨ kind = 1) → supercargoref12_Go.j0 (k + 1) gs kind l false = some (goB gs kind l) := fun h => by
  have hR : supercargoref12_Room.f kind = some (roomB kind) := by
   rcases h with rfl | rfl <;> rfl
  have h2 : 0 < (roomB kind).1 := by rcases h with rfl | rfl <;> decide
  have hJ : supercargoref11_Join.f l = some (joinB l) := by
   unfold supercargoref11_Join.f
   rw [if_pos (by omega), rjoinB_eq l hw]
  have s1 := sum_fk gs hok hg l hl false k (by omega)
  have s2 := sum_fk gs hok hg l hl true k (by omega)
  rw [if_neg (by simp)] at s1
  rw [if_pos rfl] at s2
  simp only [supercargoref12_Go.j0]
  rw [if_neg (by simp), s1, Option.bind_some, s2, Option.bind_some, hR, Option.bind_some, together_f gs hok hg l hl k (by omega), hJ]
  unfold goB
  rw [decide_eq_true h2]
  by_cases c1 : (sumG gs X.S30.f2 l).2 = 0
  ·rw [if_pos c1, decide_eq_true c1]
   by_cases c2 : (sumG gs X.S30.f3 l).2 = 0
   ·rw [if_pos c2, decide_eq_true c2]
    by_cases c3 : (sumG gs X.S30.f2 l).1 ≤ (roomB kind).1
    ·rw [if_pos c3, decide_eq_true c3]
     by_cases c4 : (sumG gs X.S30.f3 l).1 ≤ (roomB kind).2
     ·rw [if_pos c4, decide_eq_true c4, Option.bind_some]
      by_cases c5 : togB gs l = 0
      ·rw [if_pos c5, decide_eq_true c5, Option.bind_some]
       congr 1
       simp only [Bool.true_and]
       exact decide_eq_decide.2 (by omega)
      ·rw [if_neg c5, decide_eq_false c5]
       rfl
     ·rw [if_neg c4, decide_eq_false c4]
      rfl
    ·rw [if_neg c3, decide_eq_false c3]
     rfl
   ·rw [if_neg c2, decide_eq_false c2]
    rfl
  ·rw [if_neg c1, decide_eq_false c1]
   rfl
 unfold supercargoref12_Go.f
 by_cases n0 : kind < 0
 ·rw [if_pos n0, hoff (by omega)]
  rfl
 ·rw [if_neg n0]
  by_cases n1 : kind > 1
  ·rw [decide_eq_true n1, hoff (by omega)]
   rfl
  ·rw [decide_eq_false n1]
   exact inside (by omega)
end Go.Proofs.YtfflbeenkfaemaaGreatDoor.Ref
