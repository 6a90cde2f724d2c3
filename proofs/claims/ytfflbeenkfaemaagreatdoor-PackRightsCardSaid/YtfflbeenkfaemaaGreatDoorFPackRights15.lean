/- One of the texts of this claim: Xx12, RefR. -/
import Derived.Test.YtfflbeenkfaemaaGreatDoorFPackRights14
namespace Go.Proofs.YtfflbeenkfaemaaGreatDoor.X
open Go.RowKit Go.Proofs.YtfflbeenkfaemaaGreatDoor.Ext Go.Proofs.YtfflbeenkfaemaaGreatDoorW.PrintWords Go.Proofs.YtfflbeenkfaemaaGreatDoorW.PrintLast Go.Proofs.YtfflbeenkfaemaaGreatDoorW.PrintMore
attribute [local go_sem] max2_int min2_int max_two min_two max_three min_three max_four min_four   -- for this text's walks alone
set_option linter.unusedVariables false
set_option linter.unusedSimpArgs false
mutual
def supercargoref12_Right.l0 : Nat → List (S30) → List (S44) → List (S55) → Int → Option (Bool)
 | 0, _, _, _, _ => none
 | k + 1, x0, x1, x2, x7 => if x7 < (x1.length : Int) then (if 0 ≤ x7 then ((supercargoref03_Right.f k ((rd_T44 x1 x7).f0)).bind fun t283 => (if t283 = true then (if (((rd_T44 x1 x7).f2).length : Int) = 0 then (supercargoref12_Right.j1 k x0 x1 x2 x7 true ((rd_T44 x1 x7).f0) ((rd_T44 x1 x7).f1) ((rd_T44 x1 x7).f2)) else ((supercargoref12_Go.f k x0 ((rd_T44 x1 x7).f1) ((rd_T44 x1 x7).f2)).bind fun t284 => (if t284 = true then ((supercargoref11_Join.f ((rd_T44 x1 x7).f2)).bind fun t285 => (supercargoref12_Right.j1 k x0 x1 x2 x7 ((t285.length : Int) != (((rd_T44 x1 x7).f2).length : Int)) ((rd_T44 x1 x7).f0) ((rd_T44 x1 x7).f1) ((rd_T44 x1 x7).f2))) else (supercargoref12_Right.j1 k x0 x1 x2 x7 true ((rd_T44 x1 x7).f0) ((rd_T44 x1 x7).f1) ((rd_T44 x1 x7).f2))))) else (supercargoref12_Right.j1 k x0 x1 x2 x7 true ((rd_T44 x1 x7).f0) ((rd_T44 x1 x7).f1) ((rd_T44 x1 x7).f2)))) else (none)) else ((supercargoref12_Content.f k x1).bind fun t274 => ((supercargoref11_Join.f x2).bind fun t277 => ((supercargoref11_Same.f k t274 t277).bind fun t280 => (some t280))))
def supercargoref12_Right.j1 : Nat → List (S30) → List (S44) → List (S55) → Int → Bool → ByteArray → Int → List (S55) → Option (Bool)
 | 0, _, _, _, _, _, _, _, _ => none
 | k + 1, x0, x1, x2, x7, x48, x283000, x283001, x283002 => if x48 = true then (some false) else (supercargoref12_Right.l1 k x0 x1 x2 x7 0 x283000 x283001 x283002)
def supercargoref12_Right.l1 : Nat → List (S30) → List (S44) → List (S55) → Int → Int → ByteArray → Int → List (S55) → Option (Bool)
 | 0, _, _, _, _, _, _, _, _ => none
 | k + 1, x0, x1, x2, x7, x9, x283000, x283001, x283002 => if x9 < x7 then (if 0 ≤ x9 then (if x9 < (x1.length : Int) then (if ((rd_T44 x1 x9).f0).toList = x283000.toList then (some false) else (supercargoref12_Right.l1 k x0 x1 x2 x7 (wrap64 (x9 + 1)) x283000 x283001 x283002)) else (none)) else (none)) else (supercargoref12_Right.l0 k x0 x1 x2 (wrap64 (x7 + 1)))
end
def supercargoref12_Right.f (k : Nat) (l0 : List (S30)) (l1 : List (S44)) (l2 : List (S55)) : Option (Bool) := supercargoref12_Right.l0 k l0 l1 l2 0
theorem supercargoref12_Right.mono_l : ∀ k, (∀ y0 y1 y2 y3, LeO (supercargoref12_Right.l0 k y0 y1 y2 y3) (supercargoref12_Right.l0 (k + 1) y0 y1 y2 y3)) ∧ (∀ y0 y1 y2 y3 y4 y5 y6 y7, LeO (supercargoref12_Right.j1 k y0 y1 y2 y3 y4 y5 y6 y7) (supercargoref12_Right.j1 (k + 1) y0 y1 y2 y3 y4 y5 y6 y7)) ∧ (∀ y0 y1 y2 y3 y4 y5 y6 y7, LeO (supercargoref12_Right.l1 k y0 y1 y2 y3 y4 y5 y6 y7) (supercargoref12_Right.l1 (k + 1) y0 y1 y2 y3 y4 y5 y6 y7))
 | 0 => ⟨fun _ _ _ _ r h => by simp [supercargoref12_Right.l0] at h, fun _ _ _ _ _ _ _ _ r h => by simp [supercargoref12_Right.j1] at h, fun _ _ _ _ _ _ _ _ r h => by simp [supercargoref12_Right.l1] at h⟩
 | k + 1 => by
  obtain ⟨ih0, ih1, ih2⟩ := supercargoref12_Right.mono_l k
  refine ⟨?_, ?_, ?_⟩
  ·intro y0 y1 y2 y3
   unfold supercargoref12_Right.l0
   repeat' first
   | (with_reducible exact ih0 _ _ _ _)
   | (with_reducible exact ih1 _ _ _ _ _ _ _ _)
   | (with_reducible exact ih2 _ _ _ _ _ _ _ _)
   | (with_reducible exact supercargoref03_Right.mono _ _)
   | (with_reducible exact supercargoref11_Same.mono _ _ _)
   | (with_reducible exact supercargoref12_Content.mono _ _)
   | (with_reducible exact supercargoref12_Go.mono _ _ _ _)
   | (with_reducible exact LeO.refl _)
   | (with_reducible exact LeO.none _)
   | (with_reducible refine LeO.ite ?_ ?_)
   | (with_reducible refine LeO.bind ?_ (fun _ => ?_))
   | exact ih0 _ _ _ _
   | exact ih1 _ _ _ _ _ _ _ _
   | exact ih2 _ _ _ _ _ _ _ _
   | exact supercargoref03_Right.mono _ _
   | exact supercargoref11_Same.mono _ _ _
   | exact supercargoref12_Content.mono _ _
   | exact supercargoref12_Go.mono _ _ _ _
   | exact LeO.none _
   | refine LeO.ite ?_ ?_
   | refine LeO.bind ?_ (fun _ => ?_)
  ·intro y0 y1 y2 y3 y4 y5 y6 y7
   unfold supercargoref12_Right.j1
   repeat' first
   | (with_reducible exact ih0 _ _ _ _)
   | (with_reducible exact ih1 _ _ _ _ _ _ _ _)
   | (with_reducible exact ih2 _ _ _ _ _ _ _ _)
   | (with_reducible exact supercargoref03_Right.mono _ _)
   | (with_reducible exact supercargoref11_Same.mono _ _ _)
   | (with_reducible exact supercargoref12_Content.mono _ _)
   | (with_reducible exact supercargoref12_Go.mono _ _ _ _)
   | (with_reducible exact LeO.refl _)
   | (with_reducible exact LeO.none _)
   | (with_reducible refine LeO.ite ?_ ?_)
   | (with_reducible refine LeO.bind ?_ (fun _ => ?_))
   | exact ih0 _ _ _ _
   | exact ih1 _ _ _ _ _ _ _ _
   | exact ih2 _ _ _ _ _ _ _ _
   | exact supercargoref03_Right.mono _ _
   | exact supercargoref11_Same.mono _ _ _
   | exact supercargoref12_Content.mono _ _
   | exact supercargoref12_Go.mono _ _ _ _
   | exact LeO.none _
   | refine LeO.ite ?_ ?_
   | refine LeO.bind ?_ (fun _ => ?_)
  ·intro y0 y1 y2 y3 y4 y5 y6 y7
   unfold supercargoref12_Right.l1
   repeat' first
   | (with_reducible exact ih0 _ _ _ _)
   | (with_reducible exact ih1 _ _ _ _ _ _ _ _)
   | (with_reducible exact ih2 _ _ _ _ _ _ _ _)
   | (with_reducible exact supercargoref03_Right.mono _ _)
   | (with_reducible exact supercargoref11_Same.mono _ _ _)
   | (with_reducible exact supercargoref12_Content.mono _ _)
   | (with_reducible exact supercargoref12_Go.mono _ _ _ _)
   | (with_reducible exact LeO.refl _)
   | (with_reducible exact LeO.none _)
   | (with_reducible refine LeO.ite ?_ ?_)
   | (with_reducible refine LeO.bind ?_ (fun _ => ?_))
   | exact ih0 _ _ _ _
   | exact ih1 _ _ _ _ _ _ _ _
   | exact ih2 _ _ _ _ _ _ _ _
   | exact supercargoref03_Right.mono _ _
   | exact supercargoref11_Same.mono _ _ _
   | exact supercargoref12_Content.mono _ _
   | exact supercargoref12_Go.mono _ _ _ _
   | exact LeO.none _
   | refine LeO.ite ?_ ?_
   | refine LeO.bind ?_ (fun _ => ?_)
theorem supercargoref12_Right.mono : ∀ a0 a1 a2 k, LeO (supercargoref12_Right.f k a0 a1 a2) (supercargoref12_Right.f (k + 1) a0 a1 a2) := by
 intro a0 a1 a2 k
 obtain ⟨ih0, ih1, ih2⟩ := supercargoref12_Right.mono_l k
 unfold supercargoref12_Right.f
 repeat' first
   | (with_reducible exact ih0 _ _ _ _)
   | (with_reducible exact ih1 _ _ _ _ _ _ _ _)
   | (with_reducible exact ih2 _ _ _ _ _ _ _ _)
   | (with_reducible exact supercargoref03_Right.mono _ _)
   | (with_reducible exact supercargoref11_Same.mono _ _ _)
   | (with_reducible exact supercargoref12_Content.mono _ _)
   | (with_reducible exact supercargoref12_Go.mono _ _ _ _)
   | (with_reducible exact LeO.refl _)
   | (with_reducible exact LeO.none _)
   | (with_reducible refine LeO.ite ?_ ?_)
   | (with_reducible refine LeO.bind ?_ (fun _ => ?_))
   | exact ih0 _ _ _ _
   | exact ih1 _ _ _ _ _ _ _ _
   | exact ih2 _ _ _ _ _ _ _ _
   | exact supercargoref03_Right.mono _ _
   | exact supercargoref11_Same.mono _ _ _
   | exact supercargoref12_Content.mono _ _
   | exact supercargoref12_Go.mono _ _ _ _
   | exact LeO.none _
   | refine LeO.ite ?_ ?_
   | refine LeO.bind ?_ (fun _ => ?_)
def supercargoref12_Right.T5 : Bool × List (List Nat × List Nat) := (true, [([], []), ([0], [0]), ([1], [1]), ([2], [2]), ([3, 2], [3]), ([4], [4]), ([5, 4], [4, 5]), ([6, 4], [4, 6]), ([7, 4], [4, 7]), ([4, 8], [4, 8]), ([9, 4], [9]), ([10], [10]), ([10], [10]), ([12, 10], [10, 12]), ([10], [10]), ([14, 10], [10, 14]), ([11, 13, 15, 10, 10], [10, 11, 13, 15]), ([16, 10], [10, 16]), ([10, 17], [10, 17]), ([18, 16], [18]), ([19], [19]), ([20, 19], [19, 20]), ([21, 19, 19], [19, 21]), ([22, 19], [19, 22]), ([19], [19]), ([24, 19], [19, 24]), ([25, 19], [19, 25]), ([23, 26, 19], [19, 23, 26]), ([19, 27], [19, 27])])
def supercargoref12_Right.B5 : List Nat := [0, 1, 3, 7, 15, 31, 63, 127, 255, 511, 1023, 2047, 2047, 6143, 2047, 18431, 65535, 131071, 262143, 524287, 1048575, 2097151, 4194303, 8388607, 1048575, 17825791, 51380223, 134217727, 268435455]
theorem supercargoref12_Right.tab5 : rtab .any (opsOf Tryz.f36 5) = supercargoref12_Right.T5 := by kernel_rfl
theorem supercargoref12_Right.bits5 : waitsOk supercargoref12_Right.T5.2 supercargoref12_Right.B5 = true := by kernel_rfl
def supercargoref12_Right.T10 : Bool × List (List Nat × List Nat) := (true, [([], []), ([], []), ([0, 1], [0, 1]), ([2], [2]), ([3], [3]), ([], []), ([5], [5]), ([4, 6], [4, 6])])
def supercargoref12_Right.B10 : List Nat := [0, 0, 3, 7, 15, 0, 32, 127]
theorem supercargoref12_Right.tab10 : rtab .any (opsOf Tryz.f36 10) = supercargoref12_Right.T10 := by kernel_rfl
theorem supercargoref12_Right.bits10 : waitsOk supercargoref12_Right.T10.2 supercargoref12_Right.B10 = true := by kernel_rfl
set_option maxHeartbeats 8000000 in
set_option maxRecDepth 100000 in
theorem supercargoref12_Right.calls (k : Nat) (A0 : Option Addr) (c0 : Nat) (l0 : List (S30)) (A1 : Option Addr) (c1 : Nat) (l1 : List (S44)) (A2 : Option Addr) (c2 : Nat) (l2 : List (S55)) (r : Bool) (w : World) (hr0 : Kd.C k30 w A0 l0.length l0) (hc0 : l0.length ≤ c0) (hr1 : Kd.C k44 w A1 l1.length l1) (hc1 : l1.length ≤ c1) (hr2 : Kd.C k55 w A2 l2.length l2) (hc2 : l2.length ≤ c2) (h : supercargoref12_Right.f k l0 l1 l2 = some r) :
  Calls Tryz.prog 36 #[.slice A0 l0.length c0, .slice A1 l1.length c1, .slice A2 l2.length c2] w fun e w' => e = .returned (.bool r) ∧ Below w.heap.size w w' := by
 have hu44 := Tryz.underlying44
 have HR0 := Aside0.mk hr0
 have HC0 := Aside0.mk hc0
 clear hr0 hc0
 have HR1 := Aside0.mk hr1
 have HC1 := Aside0.mk hc1
 clear hr1 hc1
 have HR2 := Aside0.mk hr2
 have HC2 := Aside0.mk hc2
 clear hr2 hc2
 have HB := Aside0.mk (Below.refl w.heap.size w)
 have H : (supercargoref12_Right.l0 k l0 l1 l2 0) = some r := h
 clear h
 have H' := Aside0.mk H
 clear H
 go_enter Tryz.func36, Tryz.ntmps36
 go_wp2
 go_loopg [7] k (fun kq v7 w' => ∃ (x7_1 : Int), v7 = .int .i64 x7_1 ∧ Aside0 (supercargoref12_Right.l0 kq l0 l1 l2 x7_1 = some r) ∧ Aside0 (kq ≤ k) ∧ Aside0 (Below w.heap.size w w'))
 case atStart => exact ⟨(0), (by first | rfl | (simp; done) | (simp [*]; done)), H', ⟨Nat.le_refl _⟩, ⟨by repeat (first | (with_reducible first | exact HB.out | apply below_alloc | apply pw_below_drewN | apply below_drew1) | exact HB.out)⟩⟩
 case round =>
  clear H'
  try clear c1
  try clear c2
  try clear p2
  try clear c3
  obtain ⟨x7_1, rfl, HA, HK1, HB⟩ := hrel
  cases gk with
  | zero => exact absurd HA.out (by simp [supercargoref12_Right.l0])
  | succ k1 =>
   have H := HA.out
   clear HA
   simp only [supercargoref12_Right.l0] at H
   by_cases c4 : x7_1 < (l1.length : Int)
   ·rw [if_pos c4] at H
    have c4b0 : decide (x7_1 < (l1.length : Int)) = true := decide_eq_true c4
    clear c4
    by_cases c5 : 0 ≤ x7_1
    ·rw [if_pos c5] at H
     have c5b0 : decide (0 ≤ x7_1) = true := decide_eq_true c5
     clear c5
     have HC6 := Aside0.mk H
     clear H
     have p281 : 0 ≤ (x7_1 : Int) := of_decide_eq_true (by first | (with_reducible assumption) | assumption)
     have q281 : x7_1 < (l1.length : Int) := of_decide_eq_true (by first | (with_reducible assumption) | assumption)
     obtain ⟨ad281, A281_2, c281_2, e281, hx281_0, hx281_1, hx281_2, hl281_2, hi281_2⟩ := at_T44 HR1.out x7_1 p281 q281
     cases e281
     replace hx281_0 := (HB.out.cell (World.block_lt_of_cell? w _ hx281_0)).trans hx281_0
     replace hx281_1 := (HB.out.cell (World.block_lt_of_cell? w _ hx281_1)).trans hx281_1
     replace hx281_2 := (HB.out.cell (World.block_lt_of_cell? w _ hx281_2)).trans hx281_2
     have HR281_2 := Aside0.mk hi281_2
     have HC281_2 := Aside0.mk hl281_2
     clear hi281_2 hl281_2
     replace p281 := eq_true p281
     replace q281 := eq_true q281
     go_upto_region 5 with (first | ((with_reducible refine gate_dst (N := 8) rfl ?_); (try (refine gate_guard (by rfl) ?_; dsimp only)); refine box_event ?hg (N := 8) ?hd (cs := #[.string (⟨#[]⟩ : ByteArray), .int .i64 0, .slice none 0 0]) (t := 44) ?hr ?_; (case hd => rfl); (case hg => rfl); (case hr => first | (go_simp; done) | (go_simp; rfl)); intro gb282 hg w7 hbox hb; have n0_ := Aside0.mk (below_step (by repeat (first | (with_reducible first | exact HB.out | apply below_alloc | apply pw_below_drewN | apply below_drew1) | exact HB.out)) hb); have n1_ := Aside0.mk (hbox); have n2_ := Aside0.mk ((by rw [hg]; exact (below_size (by repeat (first | (with_reducible first | exact HB.out | apply below_alloc | apply pw_below_drewN | apply below_drew1) | exact HB.out))) : w.heap.size ≤ gb282)); have n3_ := Aside0.mk ((by rw [hg]; exact (below_size (by repeat (first | (with_reducible first | exact HB.out | apply below_alloc | apply pw_below_drewN | apply below_drew1) | exact HB.out))) : w.heap.size ≤ gb282)); clear HB; have HB := n0_; have BK282 := n1_; have GW282 := n2_; have GE282 := n3_; clear n0_ n1_ n2_ n3_; clear hb hbox hg; have hcz8_0 : w7.cell? ⟨gb282, 0, none⟩ = some (.string (⟨#[]⟩ : ByteArray)) := (blk_cell BK282.out 0).trans rfl; have hcz8_1 : w7.cell? ⟨gb282, 1, none⟩ = some (.int .i64 0) := (blk_cell BK282.out 1).trans rfl; have hcz8_2 : w7.cell? ⟨gb282, 2, none⟩ = some (.slice none 0 0) := (blk_cell BK282.out 2).trans rfl; have hfz8_0 := blk_frozen BK282.out 0; have hfz8_1 := blk_frozen BK282.out 1; have hfz8_2 := blk_frozen BK282.out 2))
     (try simp only [Act.put, List.setIfInBounds_toArray, List.set_cons_zero, List.set_cons_succ])
     go_cut [48] (fun v48 wc => ∃ (kq : Nat) (x48_5 : Bool), v48 = .bool x48_5 ∧ Aside0 (supercargoref12_Right.j1 kq l0 l1 l2 x7_1 x48_5 ((rd_T44 l1 x7_1).f0) ((rd_T44 l1 x7_1).f1) ((rd_T44 l1 x7_1).f2) = some r) ∧ Aside0 (kq ≤ k1) ∧ Aside0 (wc.heap[gb282]? = some (.cells #[.string ((rd_T44 l1 x7_1).f0), .int .i64 ((rd_T44 l1 x7_1).f1), (.slice A281_2 ((rd_T44 l1 x7_1).f2).length c281_2)] 44 (0, 0))) ∧ Aside0 (Below w.heap.size w wc))
     case first =>
      have H := HC6.out
      clear HC6
      replace H := Option.bind_eq_some_iff.mp H
      obtain ⟨t283, A90, H⟩ := H
      replace H : (if t283 = true then (if (((rd_T44 l1 x7_1).f2).length : Int) = 0 then (supercargoref12_Right.j1 k1 l0 l1 l2 x7_1 true ((rd_T44 l1 x7_1).f0) ((rd_T44 l1 x7_1).f1) ((rd_T44 l1 x7_1).f2)) else ((supercargoref12_Go.f k1 l0 ((rd_T44 l1 x7_1).f1) ((rd_T44 l1 x7_1).f2)).bind fun t284 => (if t284 = true then ((supercargoref11_Join.f ((rd_T44 l1 x7_1).f2)).bind fun t285 => (supercargoref12_Right.j1 k1 l0 l1 l2 x7_1 ((t285.length : Int) != (((rd_T44 l1 x7_1).f2).length : Int)) ((rd_T44 l1 x7_1).f0) ((rd_T44 l1 x7_1).f1) ((rd_T44 l1 x7_1).f2))) else (supercargoref12_Right.j1 k1 l0 l1 l2 x7_1 true ((rd_T44 l1 x7_1).f0) ((rd_T44 l1 x7_1).f1) ((rd_T44 l1 x7_1).f2))))) else (supercargoref12_Right.j1 k1 l0 l1 l2 x7_1 true ((rd_T44 l1 x7_1).f0) ((rd_T44 l1 x7_1).f1) ((rd_T44 l1 x7_1).f2))) = some r := H
      have A9 := Aside0.mk A90
      clear A90
      by_cases c10 : t283 = true
      ·subst c10
       have H1 : (if (((rd_T44 l1 x7_1).f2).length : Int) = 0 then (supercargoref12_Right.j1 k1 l0 l1 l2 x7_1 true ((rd_T44 l1 x7_1).f0) ((rd_T44 l1 x7_1).f1) ((rd_T44 l1 x7_1).f2)) else ((supercargoref12_Go.f k1 l0 ((rd_T44 l1 x7_1).f1) ((rd_T44 l1 x7_1).f2)).bind fun t284 => (if t284 = true then ((supercargoref11_Join.f ((rd_T44 l1 x7_1).f2)).bind fun t285 => (supercargoref12_Right.j1 k1 l0 l1 l2 x7_1 ((t285.length : Int) != (((rd_T44 l1 x7_1).f2).length : Int)) ((rd_T44 l1 x7_1).f0) ((rd_T44 l1 x7_1).f1) ((rd_T44 l1 x7_1).f2))) else (supercargoref12_Right.j1 k1 l0 l1 l2 x7_1 true ((rd_T44 l1 x7_1).f0) ((rd_T44 l1 x7_1).f1) ((rd_T44 l1 x7_1).f2))))) = some r := by rw [if_pos rfl] at H; exact H
       clear H
       have H := H1
       clear H1
       by_cases c11 : (((rd_T44 l1 x7_1).f2).length : Int) = 0
       ·rw [if_pos c11] at H
        have c11b0 : ((((rd_T44 l1 x7_1).f2).length : Int) == 0) = true := beq_iff_eq.mpr c11
        have c11b1 : ((((rd_T44 l1 x7_1).f2).length : Int) != 0) = false := bne_eq_false_iff_eq.mpr c11
        clear c11
        (first | rw [c11b0] | (simp only [i64_w, i32_w]; rw [c11b0]) | skip)
        have H' := Aside0.mk H
        clear H
        try go_wp2
        have n0_ : Aside0 ((((w7.setCell ⟨gb282, 0, none⟩ (.string ((rd_T44 l1 x7_1).f0))).setCell ⟨gb282, 1, none⟩ (.int .i64 ((rd_T44 l1 x7_1).f1))).setCell ⟨gb282, 2, none⟩ (.slice A281_2 ((rd_T44 l1 x7_1).f2).length c281_2)).heap[gb282]? = some (.cells #[.string ((rd_T44 l1 x7_1).f0), .int .i64 ((rd_T44 l1 x7_1).f1), .slice A281_2 ((rd_T44 l1 x7_1).f2).length c281_2] 44 (0, 0))) := ⟨by (with_reducible repeat (first | refine blk_drewN ?_ _ | refine blk_drew ?_ | refine blk_alloc ?_ _)); refine blk_put (cs := #[.string ((rd_T44 l1 x7_1).f0), .int .i64 ((rd_T44 l1 x7_1).f1), .slice none 0 0]) ?_ 2 _ rfl; (with_reducible repeat (first | refine blk_drewN ?_ _ | refine blk_drew ?_ | refine blk_alloc ?_ _)); refine blk_put (cs := #[.string ((rd_T44 l1 x7_1).f0), .int .i64 0, .slice none 0 0]) ?_ 1 _ rfl; (with_reducible repeat (first | refine blk_drewN ?_ _ | refine blk_drew ?_ | refine blk_alloc ?_ _)); refine blk_put (cs := #[.string (⟨#[]⟩ : ByteArray), .int .i64 0, .slice none 0 0]) ?_ 0 _ rfl; (with_reducible repeat (first | refine blk_drewN ?_ _ | refine blk_drew ?_ | refine blk_alloc ?_ _)); exact BK282.out⟩
        have n1_ : Aside0 (Below w.heap.size w (((w7.setCell ⟨gb282, 0, none⟩ (.string ((rd_T44 l1 x7_1).f0))).setCell ⟨gb282, 1, none⟩ (.int .i64 ((rd_T44 l1 x7_1).f1))).setCell ⟨gb282, 2, none⟩ (.slice A281_2 ((rd_T44 l1 x7_1).f2).length c281_2))) := ⟨by repeat (first | (with_reducible first | exact HB.out | apply below_alloc | apply pw_below_drewN | apply below_drew1 | refine below_set ?_ GE282.out) | exact HB.out)⟩
        (try clear BK282)
        (try clear HB)
        generalize (((w7.setCell ⟨gb282, 0, none⟩ (.string ((rd_T44 l1 x7_1).f0))).setCell ⟨gb282, 1, none⟩ (.int .i64 ((rd_T44 l1 x7_1).f1))).setCell ⟨gb282, 2, none⟩ (.slice A281_2 ((rd_T44 l1 x7_1).f2).length c281_2)) = w12 at n0_ n1_ ⊢
        have BK282 := n0_
        have HB := n1_
        clear n0_ n1_
        have n0_ := Aside0.mk (blk_drew BK282.out)
        have n1_ := Aside0.mk (below_drew1 HB.out)
        clear BK282
        clear HB
        have BK282 := n0_
        have HB := n1_
        clear n0_ n1_
        refine start_ (n := 29) (S := fun w' => w'.cell? ⟨gb282, 0, none⟩ = some (.string ((rd_T44 l1 x7_1).f0)) ∧ w'.cell? ⟨gb282, 1, none⟩ = some (.int .i64 ((rd_T44 l1 x7_1).f1)) ∧ w'.cell? ⟨gb282, 2, none⟩ = some (.slice A281_2 ((rd_T44 l1 x7_1).f2).length c281_2)) (ds := []) (bA 29 0) (by kernel_rfl) rfl rfl ⟨(blk_cell BK282.out 0).trans rfl, (blk_cell BK282.out 1).trans rfl, (blk_cell BK282.out 2).trans rfl⟩ (fun hHeld => ?_); refine with_tabW supercargoref12_Right.tab5 supercargoref12_Right.bits5 (fun HT_ HW_ => ?_)
        generalize w12.drew = w13 at BK282 HB hHeld ⊢
        refine pure_ (i := 0) (N := some 20) (v := ?_) (a' := ?_) (bA 29 1) rfl rfl (any_of HT_.out (by kernel_rfl)) (fun _ _ _ h => h) (Or.inl ⟨by rfl, ?_⟩) ?_ ?_
        rotate_left
        ·intro w'
         go_simp
         with_reducible rfl
        rotate_left
        ·simp only [Act.put, List.setIfInBounds_toArray, List.set_cons_zero, List.set_cons_succ, i64_w, i32_w]
         rfl
        refine take_ (i := 1) (N := some 21) (v := ?_) (a' := ?_) (bA 29 3) rfl rfl (take_ofW HT_.out HW_.out (by kernel_rfl)) (fun _ _ _ h => h) (Or.inl ⟨by rfl, ?_⟩) hHeld ?_ ?_
        rotate_left
        ·rintro w' ⟨s0, s1, s2⟩
         go_simp
         with_reducible rfl
        rotate_left
        ·simp only [Act.put, List.setIfInBounds_toArray, List.set_cons_zero, List.set_cons_succ, i64_w, i32_w]
         rfl
        refine one_ (i := 2) (N := some 22) (bA 29 7) rfl rfl (one_of HT_.out (by kernel_rfl)) (by decide) (fun K hK => ?_)
        refine goes_ Tryz.func68 (by kernel_rfl) rfl #[.string ((rd_T44 l1 x7_1).f0)] (by rfl) rfl rfl (by (try simp only [List.map_toArray, List.map_cons, List.map_nil]); first | done | rfl | (simp only [List.length_drop, List.length_take]; rfl)) ?_
        with_reducible refine (supercargoref03_Right.calls k1 ((rd_T44 l1 x7_1).f0) true _ A9.out).mono ?_
        rintro e w14 ⟨rfl, hb⟩
        refine ⟨_, rfl, ?_⟩
        have n0_ := Aside0.mk (blk_below (g := gb282) (o := .cells #[.string ((rd_T44 l1 x7_1).f0), .int .i64 ((rd_T44 l1 x7_1).f1), .slice A281_2 ((rd_T44 l1 x7_1).f2).length c281_2] 44 (0, 0)) (by (with_reducible repeat (first | refine blk_drewN ?_ _ | refine blk_drew ?_ | refine blk_alloc ?_ _)); exact BK282.out) hb)
        have n1_ := Aside0.mk (below_step (by repeat (first | (with_reducible first | exact HB.out | apply below_alloc | apply pw_below_drewN | apply below_drew1 | refine below_set ?_ GE282.out) | exact HB.out)) hb)
        clear BK282
        clear HB
        have BK282 := n0_
        have HB := n1_
        clear n0_ n1_
        (try clear hb)
        (try clear hb2)
        (try clear hk)
        (try clear hi)
        refine hK.out _ _ ⟨(blk_cell BK282.out 0).trans rfl, (blk_cell BK282.out 1).trans rfl, (blk_cell BK282.out 2).trans rfl⟩ (fun hHeld => ?_)
        clear hK K
        refine norm_ (a' := ?_) ?_ ?_
        rotate_left
        ·show Act.put _ (some 22) _ = _
         simp only [Act.put, List.setIfInBounds_toArray, List.set_cons_zero, List.set_cons_succ, i64_w, i32_w]
         rfl
        refine pure_ (i := 3) (N := some 23) (v := ?_) (a' := ?_) (bA 29 15) rfl rfl (any_of HT_.out (by kernel_rfl)) (fun _ _ _ h => h) (Or.inl ⟨by rfl, ?_⟩) ?_ ?_
        rotate_left
        ·intro w'
         go_simp
         with_reducible rfl
        rotate_left
        ·simp only [Act.put, List.setIfInBounds_toArray, List.set_cons_zero, List.set_cons_succ, i64_w, i32_w]
         rfl
        refine pure_ (i := 4) (N := some 24) (v := ?_) (a' := ?_) (bA 29 31) rfl rfl (any_of HT_.out (by kernel_rfl)) (fun _ _ _ h => h) (Or.inl ⟨by rfl, ?_⟩) ?_ ?_
        rotate_left
        ·intro w'
         go_simp
         with_reducible rfl
        rotate_left
        ·simp only [Act.put, List.setIfInBounds_toArray, List.set_cons_zero, List.set_cons_succ, i64_w, i32_w]
         rfl
        refine pure_ (i := 5) (N := some 25) (v := ?_) (a' := ?_) (bA 29 63) rfl rfl (any_of HT_.out (by kernel_rfl)) (fun _ _ _ h => h) (Or.inl ⟨by rfl, ?_⟩) ?_ ?_
        rotate_left
        ·intro w'
         go_simp
         with_reducible rfl
        rotate_left
        ·simp only [Act.put, List.setIfInBounds_toArray, List.set_cons_zero, List.set_cons_succ, i64_w, i32_w]
         rfl
        refine take_ (i := 6) (N := some 26) (v := ?_) (a' := ?_) (bA 29 127) rfl rfl (take_ofW HT_.out HW_.out (by kernel_rfl)) (fun _ _ _ h => h) (Or.inl ⟨by rfl, ?_⟩) hHeld ?_ ?_
        rotate_left
        ·rintro w' ⟨s0, s1, s2⟩
         go_simp
         with_reducible rfl
        rotate_left
        ·simp only [Act.put, List.setIfInBounds_toArray, List.set_cons_zero, List.set_cons_succ, i64_w, i32_w]
         rfl
        refine pure_ (i := 7) (N := some 27) (v := ?_) (a' := ?_) (bA 29 255) rfl rfl (any_of HT_.out (by kernel_rfl)) (fun _ _ _ h => h) (Or.inl ⟨by rfl, ?_⟩) ?_ ?_
        rotate_left
        ·intro w'
         go_simp
         with_reducible rfl
        rotate_left
        ·simp only [Act.put, List.setIfInBounds_toArray, List.set_cons_zero, List.set_cons_succ, i64_w, i32_w]
         rfl
        refine pure_ (i := 8) (N := some 28) (v := ?_) (a' := ?_) (bA 29 511) rfl rfl (any_of HT_.out (by kernel_rfl)) (fun _ _ _ h => h) (Or.inl ⟨by rfl, ?_⟩) ?_ ?_
        rotate_left
        ·intro w'
         go_simp
         with_reducible rfl
        rotate_left
        ·simp only [Act.put, List.setIfInBounds_toArray, List.set_cons_zero, List.set_cons_succ, i64_w, i32_w]
         rfl
        refine pure_ (i := 9) (N := some 29) (v := ?_) (a' := ?_) (bA 29 1023) rfl rfl (any_of HT_.out (by kernel_rfl)) (fun _ _ _ h => h) (Or.inl ⟨by rfl, ?_⟩) ?_ ?_
        rotate_left
        ·intro w'
         go_simp
         with_reducible rfl
        rotate_left
        ·simp only [Act.put, List.setIfInBounds_toArray, List.set_cons_zero, List.set_cons_succ, i64_w, i32_w]
         rfl
        refine pure_ (i := 10) (N := some 30) (v := ?_) (a' := ?_) (bA 29 2047) rfl rfl (any_of HT_.out (by kernel_rfl)) (fun _ _ _ h => h) (Or.inl ⟨by rfl, ?_⟩) ?_ ?_
        rotate_left
        ·intro w'
         go_simp
         with_reducible rfl
        rotate_left
        ·simp only [Act.put, List.setIfInBounds_toArray, List.set_cons_zero, List.set_cons_succ, i64_w, i32_w]
         rfl
        refine pure_ (i := 11) (N := some 31) (v := undef) (a' := ?_) (bA 29 4095) rfl rfl (any_of HT_.out (by kernel_rfl)) (fun _ _ _ h => h) (Or.inr ⟨by rfl, rfl⟩) ?_ ?_
        rotate_left
        ·simp only [Act.put, List.setIfInBounds_toArray, List.set_cons_zero, List.set_cons_succ, i64_w, i32_w]
         rfl
        refine pure_ (i := 12) (N := some 32) (v := undef) (a' := ?_) (bA 29 8191) rfl rfl (any_of HT_.out (by kernel_rfl)) (fun _ _ _ h => h) (Or.inr ⟨by rfl, rfl⟩) ?_ ?_
        rotate_left
        ·simp only [Act.put, List.setIfInBounds_toArray, List.set_cons_zero, List.set_cons_succ, i64_w, i32_w]
         rfl
        refine pure_ (i := 13) (N := some 33) (v := undef) (a' := ?_) (bA 29 16383) rfl rfl (any_of HT_.out (by kernel_rfl)) (fun _ _ _ h => h) (Or.inr ⟨by rfl, rfl⟩) ?_ ?_
        rotate_left
        ·simp only [Act.put, List.setIfInBounds_toArray, List.set_cons_zero, List.set_cons_succ, i64_w, i32_w]
         rfl
        refine pure_ (i := 14) (N := some 34) (v := undef) (a' := ?_) (bA 29 32767) rfl rfl (any_of HT_.out (by kernel_rfl)) (fun _ _ _ h => h) (Or.inr ⟨by rfl, rfl⟩) ?_ ?_
        rotate_left
        ·simp only [Act.put, List.setIfInBounds_toArray, List.set_cons_zero, List.set_cons_succ, i64_w, i32_w]
         rfl
        refine pure_ (i := 15) (N := some 35) (v := undef) (a' := ?_) (bA 29 65535) rfl rfl (any_of HT_.out (by kernel_rfl)) (fun _ _ _ h => h) (Or.inr ⟨by rfl, rfl⟩) ?_ ?_
        rotate_left
        ·simp only [Act.put, List.setIfInBounds_toArray, List.set_cons_zero, List.set_cons_succ, i64_w, i32_w]
         rfl
        refine pure_ (i := 16) (N := some 36) (v := undef) (a' := ?_) (bA 29 131071) rfl rfl (any_of HT_.out (by kernel_rfl)) (fun _ _ _ h => h) (Or.inr ⟨by rfl, rfl⟩) ?_ ?_
        rotate_left
        ·simp only [Act.put, List.setIfInBounds_toArray, List.set_cons_zero, List.set_cons_succ, i64_w, i32_w]
         rfl
        refine pure_ (i := 17) (N := some 37) (v := undef) (a' := ?_) (bA 29 262143) rfl rfl (any_of HT_.out (by kernel_rfl)) (fun _ _ _ h => h) (Or.inr ⟨by rfl, rfl⟩) ?_ ?_
        rotate_left
        ·simp only [Act.put, List.setIfInBounds_toArray, List.set_cons_zero, List.set_cons_succ, i64_w, i32_w]
         rfl
        refine pure_ (i := 18) (N := some 38) (v := ?_) (a' := ?_) (bA 29 524287) rfl rfl (any_of HT_.out (by kernel_rfl)) (fun _ _ _ h => h) (Or.inl ⟨by rfl, ?_⟩) ?_ ?_
        rotate_left
        ·intro w'
         go_simp
         with_reducible rfl
        rotate_left
        ·simp only [Act.put, List.setIfInBounds_toArray, List.set_cons_zero, List.set_cons_succ, i64_w, i32_w]
         rfl
        refine pure_ (i := 19) (N := some 39) (v := ?_) (a' := ?_) (bA 29 1048575) rfl rfl (any_of HT_.out (by kernel_rfl)) (fun _ _ _ h => h) (Or.inl ⟨by rfl, ?_⟩) ?_ ?_
        rotate_left
        ·intro w'
         go_simp
         with_reducible rfl
        rotate_left
        ·simp only [Act.put, List.setIfInBounds_toArray, List.set_cons_zero, List.set_cons_succ, i64_w, i32_w]
         rfl
        refine pure_ (i := 20) (N := some 40) (v := undef) (a' := ?_) (bA 29 2097151) rfl rfl (any_of HT_.out (by kernel_rfl)) (fun _ _ _ h => h) (Or.inr ⟨by rfl, rfl⟩) ?_ ?_
        rotate_left
        ·simp only [Act.put, List.setIfInBounds_toArray, List.set_cons_zero, List.set_cons_succ, i64_w, i32_w]
         rfl
        refine pure_ (i := 21) (N := some 41) (v := undef) (a' := ?_) (bA 29 4194303) rfl rfl (any_of HT_.out (by kernel_rfl)) (fun _ _ _ h => h) (Or.inr ⟨by rfl, rfl⟩) ?_ ?_
        rotate_left
        ·simp only [Act.put, List.setIfInBounds_toArray, List.set_cons_zero, List.set_cons_succ, i64_w, i32_w]
         rfl
        refine pure_ (i := 22) (N := some 42) (v := undef) (a' := ?_) (bA 29 8388607) rfl rfl (any_of HT_.out (by kernel_rfl)) (fun _ _ _ h => h) (Or.inr ⟨by rfl, rfl⟩) ?_ ?_
        rotate_left
        ·simp only [Act.put, List.setIfInBounds_toArray, List.set_cons_zero, List.set_cons_succ, i64_w, i32_w]
         rfl
        refine pure_ (i := 23) (N := some 43) (v := undef) (a' := ?_) (bA 29 16777215) rfl rfl (any_of HT_.out (by kernel_rfl)) (fun _ _ _ h => h) (Or.inr ⟨by rfl, rfl⟩) ?_ ?_
        rotate_left
        ·simp only [Act.put, List.setIfInBounds_toArray, List.set_cons_zero, List.set_cons_succ, i64_w, i32_w]
         rfl
        refine pure_ (i := 24) (N := some 44) (v := undef) (a' := ?_) (bA 29 33554431) rfl rfl (any_of HT_.out (by kernel_rfl)) (fun _ _ _ h => h) (Or.inr ⟨by rfl, rfl⟩) ?_ ?_
        rotate_left
        ·simp only [Act.put, List.setIfInBounds_toArray, List.set_cons_zero, List.set_cons_succ, i64_w, i32_w]
         rfl
        refine pure_ (i := 25) (N := some 45) (v := undef) (a' := ?_) (bA 29 67108863) rfl rfl (any_of HT_.out (by kernel_rfl)) (fun _ _ _ h => h) (Or.inr ⟨by rfl, rfl⟩) ?_ ?_
        rotate_left
        ·simp only [Act.put, List.setIfInBounds_toArray, List.set_cons_zero, List.set_cons_succ, i64_w, i32_w]
         rfl
        refine pure_ (i := 26) (N := some 46) (v := undef) (a' := ?_) (bA 29 134217727) rfl rfl (any_of HT_.out (by kernel_rfl)) (fun _ _ _ h => h) (Or.inr ⟨by rfl, rfl⟩) ?_ ?_
        rotate_left
        ·simp only [Act.put, List.setIfInBounds_toArray, List.set_cons_zero, List.set_cons_succ, i64_w, i32_w]
         rfl
        refine pure_ (i := 27) (N := some 47) (v := undef) (a' := ?_) (bA 29 268435455) rfl rfl (any_of HT_.out (by kernel_rfl)) (fun _ _ _ h => h) (Or.inr ⟨by rfl, rfl⟩) ?_ ?_
        rotate_left
        ·simp only [Act.put, List.setIfInBounds_toArray, List.set_cons_zero, List.set_cons_succ, i64_w, i32_w]
         rfl
        refine pure_ (i := 28) (N := some 48) (v := ?_) (a' := ?_) (bA 29 536870911) rfl rfl (any_of HT_.out (by kernel_rfl)) (fun _ _ _ h => h) (Or.inl ⟨by rfl, ?_⟩) ?_ ?_
        rotate_left
        ·intro w'
         go_simp
         with_reducible rfl
        rotate_left
        ·simp only [Act.put, List.setIfInBounds_toArray, List.set_cons_zero, List.set_cons_succ, i64_w, i32_w]
         rfl
        refine done_ (done_of HT_.out (by kernel_rfl)) ?_
        try go_wp2
        go_meet
        case rel => exact ⟨_, (true), (by first | rfl | (simp; done) | (simp [*]; done)), H', ⟨by have := HK1.out; first | omega | exact Nat.le_refl _⟩, ⟨by (with_reducible repeat (first | refine blk_drewN ?_ _ | refine blk_drew ?_ | refine blk_alloc ?_ _)); exact BK282.out⟩, ⟨by repeat (first | (with_reducible first | exact HB.out | apply below_alloc | apply pw_below_drewN | apply below_drew1 | refine below_set ?_ GE282.out) | exact HB.out)⟩⟩
       ·rw [if_neg c11] at H
        have c11b0 : ((((rd_T44 l1 x7_1).f2).length : Int) == 0) = false := beq_eq_false_iff_ne.mpr c11
        have c11b1 : ((((rd_T44 l1 x7_1).f2).length : Int) != 0) = true := bne_iff_ne.mpr c11
        have c11b2 : ¬ (((rd_T44 l1 x7_1).f2) = []) := fun h_ => c11 (by rw [h_]; rfl)
        (first | rw [c11b0] | (simp only [i64_w, i32_w]; rw [c11b0]) | skip)
        replace H := Option.bind_eq_some_iff.mp H
        obtain ⟨t284, A150, H⟩ := H
        replace H : (if t284 = true then ((supercargoref11_Join.f ((rd_T44 l1 x7_1).f2)).bind fun t285 => (supercargoref12_Right.j1 k1 l0 l1 l2 x7_1 ((t285.length : Int) != (((rd_T44 l1 x7_1).f2).length : Int)) ((rd_T44 l1 x7_1).f0) ((rd_T44 l1 x7_1).f1) ((rd_T44 l1 x7_1).f2))) else (supercargoref12_Right.j1 k1 l0 l1 l2 x7_1 true ((rd_T44 l1 x7_1).f0) ((rd_T44 l1 x7_1).f1) ((rd_T44 l1 x7_1).f2))) = some r := H
        have A15 := Aside0.mk A150
        clear A150
        by_cases c16 : t284 = true
        ·subst c16
         have H1 : ((supercargoref11_Join.f ((rd_T44 l1 x7_1).f2)).bind fun t285 => (supercargoref12_Right.j1 k1 l0 l1 l2 x7_1 ((t285.length : Int) != (((rd_T44 l1 x7_1).f2).length : Int)) ((rd_T44 l1 x7_1).f0) ((rd_T44 l1 x7_1).f1) ((rd_T44 l1 x7_1).f2))) = some r := by rw [if_pos rfl] at H; exact H
         clear H
         have H := H1
         clear H1
         replace H := Option.bind_eq_some_iff.mp H
         obtain ⟨t285, A170, H⟩ := H
         replace H : (supercargoref12_Right.j1 k1 l0 l1 l2 x7_1 ((t285.length : Int) != (((rd_T44 l1 x7_1).f2).length : Int)) ((rd_T44 l1 x7_1).f0) ((rd_T44 l1 x7_1).f1) ((rd_T44 l1 x7_1).f2)) = some r := H
         have A17 := Aside0.mk A170
         clear A170
         have H' := Aside0.mk H
         clear H
         try go_wp2
         have n0_ : Aside0 ((((w7.setCell ⟨gb282, 0, none⟩ (.string ((rd_T44 l1 x7_1).f0))).setCell ⟨gb282, 1, none⟩ (.int .i64 ((rd_T44 l1 x7_1).f1))).setCell ⟨gb282, 2, none⟩ (.slice A281_2 ((rd_T44 l1 x7_1).f2).length c281_2)).heap[gb282]? = some (.cells #[.string ((rd_T44 l1 x7_1).f0), .int .i64 ((rd_T44 l1 x7_1).f1), .slice A281_2 ((rd_T44 l1 x7_1).f2).length c281_2] 44 (0, 0))) := ⟨by (with_reducible repeat (first | refine blk_drewN ?_ _ | refine blk_drew ?_ | refine blk_alloc ?_ _)); refine blk_put (cs := #[.string ((rd_T44 l1 x7_1).f0), .int .i64 ((rd_T44 l1 x7_1).f1), .slice none 0 0]) ?_ 2 _ rfl; (with_reducible repeat (first | refine blk_drewN ?_ _ | refine blk_drew ?_ | refine blk_alloc ?_ _)); refine blk_put (cs := #[.string ((rd_T44 l1 x7_1).f0), .int .i64 0, .slice none 0 0]) ?_ 1 _ rfl; (with_reducible repeat (first | refine blk_drewN ?_ _ | refine blk_drew ?_ | refine blk_alloc ?_ _)); refine blk_put (cs := #[.string (⟨#[]⟩ : ByteArray), .int .i64 0, .slice none 0 0]) ?_ 0 _ rfl; (with_reducible repeat (first | refine blk_drewN ?_ _ | refine blk_drew ?_ | refine blk_alloc ?_ _)); exact BK282.out⟩
         have n1_ : Aside0 (Below w.heap.size w (((w7.setCell ⟨gb282, 0, none⟩ (.string ((rd_T44 l1 x7_1).f0))).setCell ⟨gb282, 1, none⟩ (.int .i64 ((rd_T44 l1 x7_1).f1))).setCell ⟨gb282, 2, none⟩ (.slice A281_2 ((rd_T44 l1 x7_1).f2).length c281_2))) := ⟨by repeat (first | (with_reducible first | exact HB.out | apply below_alloc | apply pw_below_drewN | apply below_drew1 | refine below_set ?_ GE282.out) | exact HB.out)⟩
         (try clear BK282)
         (try clear HB)
         generalize (((w7.setCell ⟨gb282, 0, none⟩ (.string ((rd_T44 l1 x7_1).f0))).setCell ⟨gb282, 1, none⟩ (.int .i64 ((rd_T44 l1 x7_1).f1))).setCell ⟨gb282, 2, none⟩ (.slice A281_2 ((rd_T44 l1 x7_1).f2).length c281_2)) = w18 at n0_ n1_ ⊢
         have BK282 := n0_
         have HB := n1_
         clear n0_ n1_
         have n0_ := Aside0.mk (blk_drew BK282.out)
         have n1_ := Aside0.mk (below_drew1 HB.out)
         clear BK282
         clear HB
         have BK282 := n0_
         have HB := n1_
         clear n0_ n1_
         refine start_ (n := 29) (S := fun w' => w'.cell? ⟨gb282, 0, none⟩ = some (.string ((rd_T44 l1 x7_1).f0)) ∧ w'.cell? ⟨gb282, 1, none⟩ = some (.int .i64 ((rd_T44 l1 x7_1).f1)) ∧ w'.cell? ⟨gb282, 2, none⟩ = some (.slice A281_2 ((rd_T44 l1 x7_1).f2).length c281_2)) (ds := []) (bA 29 0) (by kernel_rfl) rfl rfl ⟨(blk_cell BK282.out 0).trans rfl, (blk_cell BK282.out 1).trans rfl, (blk_cell BK282.out 2).trans rfl⟩ (fun hHeld => ?_); refine with_tabW supercargoref12_Right.tab5 supercargoref12_Right.bits5 (fun HT_ HW_ => ?_)
         generalize w18.drew = w19 at BK282 HB hHeld ⊢
         refine pure_ (i := 0) (N := some 20) (v := ?_) (a' := ?_) (bA 29 1) rfl rfl (any_of HT_.out (by kernel_rfl)) (fun _ _ _ h => h) (Or.inl ⟨by rfl, ?_⟩) ?_ ?_
         rotate_left
         ·intro w'
          go_simp
          with_reducible rfl
         rotate_left
         ·simp only [Act.put, List.setIfInBounds_toArray, List.set_cons_zero, List.set_cons_succ, i64_w, i32_w]
          rfl
         refine take_ (i := 1) (N := some 21) (v := ?_) (a' := ?_) (bA 29 3) rfl rfl (take_ofW HT_.out HW_.out (by kernel_rfl)) (fun _ _ _ h => h) (Or.inl ⟨by rfl, ?_⟩) hHeld ?_ ?_
         rotate_left
         ·rintro w' ⟨s0, s1, s2⟩
          go_simp
          with_reducible rfl
         rotate_left
         ·simp only [Act.put, List.setIfInBounds_toArray, List.set_cons_zero, List.set_cons_succ, i64_w, i32_w]
          rfl
         refine one_ (i := 2) (N := some 22) (bA 29 7) rfl rfl (one_of HT_.out (by kernel_rfl)) (by decide) (fun K hK => ?_)
         refine goes_ Tryz.func68 (by kernel_rfl) rfl #[.string ((rd_T44 l1 x7_1).f0)] (by rfl) rfl rfl (by (try simp only [List.map_toArray, List.map_cons, List.map_nil]); first | done | rfl | (simp only [List.length_drop, List.length_take]; rfl)) ?_
         with_reducible refine (supercargoref03_Right.calls k1 ((rd_T44 l1 x7_1).f0) true _ A9.out).mono ?_
         rintro e w20 ⟨rfl, hb⟩
         refine ⟨_, rfl, ?_⟩
         have n0_ := Aside0.mk (blk_below (g := gb282) (o := .cells #[.string ((rd_T44 l1 x7_1).f0), .int .i64 ((rd_T44 l1 x7_1).f1), .slice A281_2 ((rd_T44 l1 x7_1).f2).length c281_2] 44 (0, 0)) (by (with_reducible repeat (first | refine blk_drewN ?_ _ | refine blk_drew ?_ | refine blk_alloc ?_ _)); exact BK282.out) hb)
         have n1_ := Aside0.mk (below_step (by repeat (first | (with_reducible first | exact HB.out | apply below_alloc | apply pw_below_drewN | apply below_drew1 | refine below_set ?_ GE282.out) | exact HB.out)) hb)
         clear BK282
         clear HB
         have BK282 := n0_
         have HB := n1_
         clear n0_ n1_
         (try clear hb)
         (try clear hb2)
         (try clear hk)
         (try clear hi)
         refine hK.out _ _ ⟨(blk_cell BK282.out 0).trans rfl, (blk_cell BK282.out 1).trans rfl, (blk_cell BK282.out 2).trans rfl⟩ (fun hHeld => ?_)
         clear hK K
         refine norm_ (a' := ?_) ?_ ?_
         rotate_left
         ·show Act.put _ (some 22) _ = _
          simp only [Act.put, List.setIfInBounds_toArray, List.set_cons_zero, List.set_cons_succ, i64_w, i32_w]
          rfl
         refine pure_ (i := 3) (N := some 23) (v := ?_) (a' := ?_) (bA 29 15) rfl rfl (any_of HT_.out (by kernel_rfl)) (fun _ _ _ h => h) (Or.inl ⟨by rfl, ?_⟩) ?_ ?_
         rotate_left
         ·intro w'
          go_simp
          with_reducible rfl
         rotate_left
         ·simp only [Act.put, List.setIfInBounds_toArray, List.set_cons_zero, List.set_cons_succ, i64_w, i32_w]
          rfl
         refine pure_ (i := 4) (N := some 24) (v := ?_) (a' := ?_) (bA 29 31) rfl rfl (any_of HT_.out (by kernel_rfl)) (fun _ _ _ h => h) (Or.inl ⟨by rfl, ?_⟩) ?_ ?_
         rotate_left
         ·intro w'
          go_simp
          with_reducible rfl
         rotate_left
         ·simp only [Act.put, List.setIfInBounds_toArray, List.set_cons_zero, List.set_cons_succ, i64_w, i32_w]
          rfl
         refine pure_ (i := 5) (N := some 25) (v := ?_) (a' := ?_) (bA 29 63) rfl rfl (any_of HT_.out (by kernel_rfl)) (fun _ _ _ h => h) (Or.inl ⟨by rfl, ?_⟩) ?_ ?_
         rotate_left
         ·intro w'
          go_simp
          with_reducible rfl
         rotate_left
         ·simp only [Act.put, List.setIfInBounds_toArray, List.set_cons_zero, List.set_cons_succ, i64_w, i32_w]
          rfl
         refine take_ (i := 6) (N := some 26) (v := ?_) (a' := ?_) (bA 29 127) rfl rfl (take_ofW HT_.out HW_.out (by kernel_rfl)) (fun _ _ _ h => h) (Or.inl ⟨by rfl, ?_⟩) hHeld ?_ ?_
         rotate_left
         ·rintro w' ⟨s0, s1, s2⟩
          go_simp
          with_reducible rfl
         rotate_left
         ·simp only [Act.put, List.setIfInBounds_toArray, List.set_cons_zero, List.set_cons_succ, i64_w, i32_w]
          rfl
         refine pure_ (i := 7) (N := some 27) (v := ?_) (a' := ?_) (bA 29 255) rfl rfl (any_of HT_.out (by kernel_rfl)) (fun _ _ _ h => h) (Or.inl ⟨by rfl, ?_⟩) ?_ ?_
         rotate_left
         ·intro w'
          go_simp
          with_reducible rfl
         rotate_left
         ·simp only [Act.put, List.setIfInBounds_toArray, List.set_cons_zero, List.set_cons_succ, i64_w, i32_w]
          rfl
         refine pure_ (i := 8) (N := some 28) (v := ?_) (a' := ?_) (bA 29 511) rfl rfl (any_of HT_.out (by kernel_rfl)) (fun _ _ _ h => h) (Or.inl ⟨by rfl, ?_⟩) ?_ ?_
         rotate_left
         ·intro w'
          go_simp
          with_reducible rfl
         rotate_left
         ·simp only [Act.put, List.setIfInBounds_toArray, List.set_cons_zero, List.set_cons_succ, i64_w, i32_w]
          rfl
         refine pure_ (i := 9) (N := some 29) (v := ?_) (a' := ?_) (bA 29 1023) rfl rfl (any_of HT_.out (by kernel_rfl)) (fun _ _ _ h => h) (Or.inl ⟨by rfl, ?_⟩) ?_ ?_
         rotate_left
         ·intro w'
          go_simp
          with_reducible rfl
         rotate_left
         ·simp only [Act.put, List.setIfInBounds_toArray, List.set_cons_zero, List.set_cons_succ, i64_w, i32_w]
          rfl
         refine pure_ (i := 10) (N := some 30) (v := ?_) (a' := ?_) (bA 29 2047) rfl rfl (any_of HT_.out (by kernel_rfl)) (fun _ _ _ h => h) (Or.inl ⟨by rfl, ?_⟩) ?_ ?_
         rotate_left
         ·intro w'
          go_simp
          with_reducible rfl
         rotate_left
         ·simp only [Act.put, List.setIfInBounds_toArray, List.set_cons_zero, List.set_cons_succ, i64_w, i32_w]
          rfl
         refine pure_ (i := 11) (N := some 31) (v := ?_) (a' := ?_) (bA 29 4095) rfl rfl (any_of HT_.out (by kernel_rfl)) (fun _ _ _ h => h) (Or.inl ⟨by rfl, ?_⟩) ?_ ?_
         rotate_left
         ·intro w'
          go_simp
          with_reducible rfl
         rotate_left
         ·simp only [Act.put, List.setIfInBounds_toArray, List.set_cons_zero, List.set_cons_succ, i64_w, i32_w]
          rfl
         refine pure_ (i := 12) (N := some 32) (v := ?_) (a' := ?_) (bA 29 8191) rfl rfl (any_of HT_.out (by kernel_rfl)) (fun _ _ _ h => h) (Or.inl ⟨by rfl, ?_⟩) ?_ ?_
         rotate_left
         ·intro w'
          go_simp
          with_reducible rfl
         rotate_left
         ·simp only [Act.put, List.setIfInBounds_toArray, List.set_cons_zero, List.set_cons_succ, i64_w, i32_w]
          rfl
         refine pure_ (i := 14) (N := some 34) (v := ?_) (a' := ?_) (bA 29 24575) rfl rfl (any_of HT_.out (by kernel_rfl)) (fun _ _ _ h => h) (Or.inl ⟨by rfl, ?_⟩) ?_ ?_
         rotate_left
         ·intro w'
          go_simp
          with_reducible rfl
         rotate_left
         ·simp only [Act.put, List.setIfInBounds_toArray, List.set_cons_zero, List.set_cons_succ, i64_w, i32_w]
          rfl
         refine take_ (i := 13) (N := some 33) (v := ?_) (a' := ?_) (bA 29 32767) rfl rfl (take_ofW HT_.out HW_.out (by kernel_rfl)) (fun _ _ _ h => h) (Or.inl ⟨by rfl, ?_⟩) hHeld ?_ ?_
         rotate_left
         ·rintro w' ⟨s0, s1, s2⟩
          go_simp
          with_reducible rfl
         rotate_left
         ·simp only [Act.put, List.setIfInBounds_toArray, List.set_cons_zero, List.set_cons_succ, i64_w, i32_w]
          rfl
         refine take_ (i := 15) (N := some 35) (v := ?_) (a' := ?_) (bA 29 65535) rfl rfl (take_ofW HT_.out HW_.out (by kernel_rfl)) (fun _ _ _ h => h) (Or.inl ⟨by rfl, ?_⟩) hHeld ?_ ?_
         rotate_left
         ·rintro w' ⟨s0, s1, s2⟩
          go_simp
          with_reducible rfl
         rotate_left
         ·simp only [Act.put, List.setIfInBounds_toArray, List.set_cons_zero, List.set_cons_succ, i64_w, i32_w]
          rfl
         refine one_ (i := 16) (N := some 36) (bA 29 131071) rfl rfl (one_of HT_.out (by kernel_rfl)) (by decide) (fun K hK => ?_)
         refine goes_ Tryz.func28 (by kernel_rfl) rfl #[.slice A0 l0.length c0, .int .i64 ((rd_T44 l1 x7_1).f1), .slice A281_2 ((rd_T44 l1 x7_1).f2).length c281_2] (by rfl) rfl rfl (by (try simp only [List.map_toArray, List.map_cons, List.map_nil]); first | done | rfl | (simp only [List.length_drop, List.length_take]; rfl)) ?_
         with_reducible refine (supercargoref12_Go.calls k1 _ _ l0 ((rd_T44 l1 x7_1).f1) _ _ ((rd_T44 l1 x7_1).f2) true _ ?side1 ?side2 ?side3 ?side4 A15.out).mono ?_
         (case side1 => repeat (first | exact (Kd.C_below HR0.out HB.out) | (with_reducible refine Kd.C_alloc ?_ _) | (with_reducible refine Kd.C_drewN ?_ _) | (with_reducible refine Kd.C_drew ?_)))
         (case side2 => exact HC0.out)
         (case side3 => repeat (first | exact (Kd.C_below HR281_2.out HB.out) | (with_reducible refine Kd.C_alloc ?_ _) | (with_reducible refine Kd.C_drewN ?_ _) | (with_reducible refine Kd.C_drew ?_)))
         (case side4 => exact HC281_2.out)
         rintro e w21 ⟨rfl, hb⟩
         refine ⟨_, rfl, ?_⟩
         have n0_ := Aside0.mk (blk_below (g := gb282) (o := .cells #[.string ((rd_T44 l1 x7_1).f0), .int .i64 ((rd_T44 l1 x7_1).f1), .slice A281_2 ((rd_T44 l1 x7_1).f2).length c281_2] 44 (0, 0)) (by (with_reducible repeat (first | refine blk_drewN ?_ _ | refine blk_drew ?_ | refine blk_alloc ?_ _)); exact BK282.out) hb)
         have n1_ := Aside0.mk (below_step (by repeat (first | (with_reducible first | exact HB.out | apply below_alloc | apply pw_below_drewN | apply below_drew1 | refine below_set ?_ GE282.out) | exact HB.out)) hb)
         clear BK282
         clear HB
         have BK282 := n0_
         have HB := n1_
         clear n0_ n1_
         (try clear hb)
         (try clear hb2)
         (try clear hk)
         (try clear hi)
         refine hK.out _ _ ⟨(blk_cell BK282.out 0).trans rfl, (blk_cell BK282.out 1).trans rfl, (blk_cell BK282.out 2).trans rfl⟩ (fun hHeld => ?_)
         clear hK K
         refine norm_ (a' := ?_) ?_ ?_
         rotate_left
         ·show Act.put _ (some 36) _ = _
          simp only [Act.put, List.setIfInBounds_toArray, List.set_cons_zero, List.set_cons_succ, i64_w, i32_w]
          rfl
         refine pure_ (i := 17) (N := some 37) (v := ?_) (a' := ?_) (bA 29 262143) rfl rfl (any_of HT_.out (by kernel_rfl)) (fun _ _ _ h => h) (Or.inl ⟨by rfl, ?_⟩) ?_ ?_
         rotate_left
         ·intro w'
          go_simp
          with_reducible rfl
         rotate_left
         ·simp only [Act.put, List.setIfInBounds_toArray, List.set_cons_zero, List.set_cons_succ, i64_w, i32_w]
          rfl
         refine pure_ (i := 18) (N := some 38) (v := ?_) (a' := ?_) (bA 29 524287) rfl rfl (any_of HT_.out (by kernel_rfl)) (fun _ _ _ h => h) (Or.inl ⟨by rfl, ?_⟩) ?_ ?_
         rotate_left
         ·intro w'
          go_simp
          with_reducible rfl
         rotate_left
         ·simp only [Act.put, List.setIfInBounds_toArray, List.set_cons_zero, List.set_cons_succ, i64_w, i32_w]
          rfl
         refine pure_ (i := 19) (N := some 39) (v := ?_) (a' := ?_) (bA 29 1048575) rfl rfl (any_of HT_.out (by kernel_rfl)) (fun _ _ _ h => h) (Or.inl ⟨by rfl, ?_⟩) ?_ ?_
         rotate_left
         ·intro w'
          go_simp
          with_reducible rfl
         rotate_left
         ·simp only [Act.put, List.setIfInBounds_toArray, List.set_cons_zero, List.set_cons_succ, i64_w, i32_w]
          rfl
         refine pure_ (i := 20) (N := some 40) (v := ?_) (a' := ?_) (bA 29 2097151) rfl rfl (any_of HT_.out (by kernel_rfl)) (fun _ _ _ h => h) (Or.inl ⟨by rfl, ?_⟩) ?_ ?_
         rotate_left
         ·intro w'
          go_simp
          with_reducible rfl
         rotate_left
         ·simp only [Act.put, List.setIfInBounds_toArray, List.set_cons_zero, List.set_cons_succ, i64_w, i32_w]
          rfl
         refine pure_ (i := 24) (N := some 44) (v := ?_) (a' := ?_) (bA 29 18874367) rfl rfl (any_of HT_.out (by kernel_rfl)) (fun _ _ _ h => h) (Or.inl ⟨by rfl, ?_⟩) ?_ ?_
         rotate_left
         ·intro w'
          go_simp
          with_reducible rfl
         rotate_left
         ·simp only [Act.put, List.setIfInBounds_toArray, List.set_cons_zero, List.set_cons_succ, i64_w, i32_w]
          rfl
         refine take_ (i := 21) (N := some 41) (v := ?_) (a' := ?_) (bA 29 20971519) rfl rfl (take_ofW HT_.out HW_.out (by kernel_rfl)) (fun _ _ _ h => h) (Or.inl ⟨by rfl, ?_⟩) hHeld ?_ ?_
         rotate_left
         ·rintro w' ⟨s0, s1, s2⟩
          go_simp
          with_reducible rfl
         rotate_left
         ·simp only [Act.put, List.setIfInBounds_toArray, List.set_cons_zero, List.set_cons_succ, i64_w, i32_w]
          rfl
         refine take_ (i := 25) (N := some 45) (v := ?_) (a' := ?_) (bA 29 54525951) rfl rfl (take_ofW HT_.out HW_.out (by kernel_rfl)) (fun _ _ _ h => h) (Or.inl ⟨by rfl, ?_⟩) hHeld ?_ ?_
         rotate_left
         ·rintro w' ⟨s0, s1, s2⟩
          go_simp
          with_reducible rfl
         rotate_left
         ·simp only [Act.put, List.setIfInBounds_toArray, List.set_cons_zero, List.set_cons_succ, i64_w, i32_w]
          rfl
         refine pure_ (i := 26) (N := some 46) (v := ?_) (a' := ?_) (bA 29 121634815) rfl rfl (any_of HT_.out (by kernel_rfl)) (fun _ _ _ h => h) (Or.inl ⟨by rfl, ?_⟩) ?_ ?_
         rotate_left
         ·intro w'
          go_simp
          with_reducible rfl
         rotate_left
         ·simp only [Act.put, List.setIfInBounds_toArray, List.set_cons_zero, List.set_cons_succ, i64_w, i32_w]
          rfl
         refine one_ (i := 22) (N := some 42) (bA 29 125829119) rfl rfl (one_of HT_.out (by kernel_rfl)) (by decide) (fun K hK => ?_)
         refine goes_ Tryz.func37 (by kernel_rfl) rfl #[.slice A281_2 ((rd_T44 l1 x7_1).f2).length c281_2] (by rfl) rfl rfl (by (try simp only [List.map_toArray, List.map_cons, List.map_nil]); first | done | rfl | (simp only [List.length_drop, List.length_take]; rfl)) ?_
         with_reducible refine (supercargoref11_Join.calls _ _ ((rd_T44 l1 x7_1).f2) t285 _ ?side1 ?side2 A17.out).mono ?_
         (case side1 => repeat (first | exact (Kd.C_below HR281_2.out HB.out) | (with_reducible refine Kd.C_alloc ?_ _) | (with_reducible refine Kd.C_drewN ?_ _) | (with_reducible refine Kd.C_drew ?_)))
         (case side2 => exact HC281_2.out)
         rintro e w22 ⟨v286, rfl, ho0, hb⟩
         refine ⟨_, rfl, ?_⟩
         have n0_ := Aside0.mk (Kd.R_lower ho0 (below_size (by repeat (first | (with_reducible first | exact HB.out | apply below_alloc | apply pw_below_drewN | apply below_drew1 | refine below_set ?_ GE282.out) | exact HB.out))))
         have n1_ := Aside0.mk (blk_below (g := gb282) (o := .cells #[.string ((rd_T44 l1 x7_1).f0), .int .i64 ((rd_T44 l1 x7_1).f1), .slice A281_2 ((rd_T44 l1 x7_1).f2).length c281_2] 44 (0, 0)) (by (with_reducible repeat (first | refine blk_drewN ?_ _ | refine blk_drew ?_ | refine blk_alloc ?_ _)); exact BK282.out) hb)
         have n2_ := Aside0.mk (below_step (by repeat (first | (with_reducible first | exact HB.out | apply below_alloc | apply pw_below_drewN | apply below_drew1 | refine below_set ?_ GE282.out) | exact HB.out)) hb)
         clear BK282
         clear HB
         have HO287 := n0_
         have BK282 := n1_
         have HB := n2_
         clear n0_ n1_ n2_
         (try clear hb)
         (try clear hb2)
         (try clear hk)
         (try clear hi)
         (try clear ho0)
         obtain ⟨Ao23, co23, eo23⟩ := Kd.R_slice HO287.out
         (first | subst eo23 | (injection eo23 with f1_ f2_ f3_; have f4_ := f1_.symm; have f5_ := f3_.symm; clear f1_ f2_ f3_; subst f4_; subst f5_))
         refine hK.out _ _ ⟨(blk_cell BK282.out 0).trans rfl, (blk_cell BK282.out 1).trans rfl, (blk_cell BK282.out 2).trans rfl⟩ (fun hHeld => ?_)
         clear hK K
         refine norm_ (a' := ?_) ?_ ?_
         rotate_left
         ·show Act.put _ (some 42) _ = _
          simp only [Act.put, List.setIfInBounds_toArray, List.set_cons_zero, List.set_cons_succ, i64_w, i32_w]
          rfl
         refine pure_ (i := 23) (N := some 43) (v := ?_) (a' := ?_) (bA 29 134217727) rfl rfl (any_of HT_.out (by kernel_rfl)) (fun _ _ _ h => h) (Or.inl ⟨by rfl, ?_⟩) ?_ ?_
         rotate_left
         ·intro w'
          go_simp
          with_reducible rfl
         rotate_left
         ·simp only [Act.put, List.setIfInBounds_toArray, List.set_cons_zero, List.set_cons_succ, i64_w, i32_w]
          rfl
         refine pure_ (i := 27) (N := some 47) (v := ?_) (a' := ?_) (bA 29 268435455) rfl rfl (any_of HT_.out (by kernel_rfl)) (fun _ _ _ h => h) (Or.inl ⟨by rfl, ?_⟩) ?_ ?_
         rotate_left
         ·intro w'
          go_simp
          with_reducible rfl
         rotate_left
         ·simp only [Act.put, List.setIfInBounds_toArray, List.set_cons_zero, List.set_cons_succ, i64_w, i32_w]
          rfl
         refine pure_ (i := 28) (N := some 48) (v := ?_) (a' := ?_) (bA 29 536870911) rfl rfl (any_of HT_.out (by kernel_rfl)) (fun _ _ _ h => h) (Or.inl ⟨by rfl, ?_⟩) ?_ ?_
         rotate_left
         ·intro w'
          go_simp
          with_reducible rfl
         rotate_left
         ·simp only [Act.put, List.setIfInBounds_toArray, List.set_cons_zero, List.set_cons_succ, i64_w, i32_w]
          rfl
         refine done_ (done_of HT_.out (by kernel_rfl)) ?_
         try go_wp2
         go_meet
         case rel => exact ⟨_, (((t285.length : Int) != (((rd_T44 l1 x7_1).f2).length : Int))), (by first | rfl | (simp; done) | (simp [*]; done)), H', ⟨by have := HK1.out; first | omega | exact Nat.le_refl _⟩, ⟨by (with_reducible repeat (first | refine blk_drewN ?_ _ | refine blk_drew ?_ | refine blk_alloc ?_ _)); exact BK282.out⟩, ⟨by repeat (first | (with_reducible first | exact HB.out | apply below_alloc | apply pw_below_drewN | apply below_drew1 | refine below_set ?_ GE282.out) | exact HB.out)⟩⟩
        ·replace c16 := Bool.eq_false_iff.mpr c16
         subst c16
         have H1 : (supercargoref12_Right.j1 k1 l0 l1 l2 x7_1 true ((rd_T44 l1 x7_1).f0) ((rd_T44 l1 x7_1).f1) ((rd_T44 l1 x7_1).f2)) = some r := by rw [if_neg (show ¬ (false = true) by decide)] at H; exact H
         clear H
         have H := H1
         clear H1
         have H' := Aside0.mk H
         clear H
         try go_wp2
         have n0_ : Aside0 ((((w7.setCell ⟨gb282, 0, none⟩ (.string ((rd_T44 l1 x7_1).f0))).setCell ⟨gb282, 1, none⟩ (.int .i64 ((rd_T44 l1 x7_1).f1))).setCell ⟨gb282, 2, none⟩ (.slice A281_2 ((rd_T44 l1 x7_1).f2).length c281_2)).heap[gb282]? = some (.cells #[.string ((rd_T44 l1 x7_1).f0), .int .i64 ((rd_T44 l1 x7_1).f1), .slice A281_2 ((rd_T44 l1 x7_1).f2).length c281_2] 44 (0, 0))) := ⟨by (with_reducible repeat (first | refine blk_drewN ?_ _ | refine blk_drew ?_ | refine blk_alloc ?_ _)); refine blk_put (cs := #[.string ((rd_T44 l1 x7_1).f0), .int .i64 ((rd_T44 l1 x7_1).f1), .slice none 0 0]) ?_ 2 _ rfl; (with_reducible repeat (first | refine blk_drewN ?_ _ | refine blk_drew ?_ | refine blk_alloc ?_ _)); refine blk_put (cs := #[.string ((rd_T44 l1 x7_1).f0), .int .i64 0, .slice none 0 0]) ?_ 1 _ rfl; (with_reducible repeat (first | refine blk_drewN ?_ _ | refine blk_drew ?_ | refine blk_alloc ?_ _)); refine blk_put (cs := #[.string (⟨#[]⟩ : ByteArray), .int .i64 0, .slice none 0 0]) ?_ 0 _ rfl; (with_reducible repeat (first | refine blk_drewN ?_ _ | refine blk_drew ?_ | refine blk_alloc ?_ _)); exact BK282.out⟩
         have n1_ : Aside0 (Below w.heap.size w (((w7.setCell ⟨gb282, 0, none⟩ (.string ((rd_T44 l1 x7_1).f0))).setCell ⟨gb282, 1, none⟩ (.int .i64 ((rd_T44 l1 x7_1).f1))).setCell ⟨gb282, 2, none⟩ (.slice A281_2 ((rd_T44 l1 x7_1).f2).length c281_2))) := ⟨by repeat (first | (with_reducible first | exact HB.out | apply below_alloc | apply pw_below_drewN | apply below_drew1 | refine below_set ?_ GE282.out) | exact HB.out)⟩
         (try clear BK282)
         (try clear HB)
         generalize (((w7.setCell ⟨gb282, 0, none⟩ (.string ((rd_T44 l1 x7_1).f0))).setCell ⟨gb282, 1, none⟩ (.int .i64 ((rd_T44 l1 x7_1).f1))).setCell ⟨gb282, 2, none⟩ (.slice A281_2 ((rd_T44 l1 x7_1).f2).length c281_2)) = w24 at n0_ n1_ ⊢
         have BK282 := n0_
         have HB := n1_
         clear n0_ n1_
         have n0_ := Aside0.mk (blk_drew BK282.out)
         have n1_ := Aside0.mk (below_drew1 HB.out)
         clear BK282
         clear HB
         have BK282 := n0_
         have HB := n1_
         clear n0_ n1_
         refine start_ (n := 29) (S := fun w' => w'.cell? ⟨gb282, 0, none⟩ = some (.string ((rd_T44 l1 x7_1).f0)) ∧ w'.cell? ⟨gb282, 1, none⟩ = some (.int .i64 ((rd_T44 l1 x7_1).f1)) ∧ w'.cell? ⟨gb282, 2, none⟩ = some (.slice A281_2 ((rd_T44 l1 x7_1).f2).length c281_2)) (ds := []) (bA 29 0) (by kernel_rfl) rfl rfl ⟨(blk_cell BK282.out 0).trans rfl, (blk_cell BK282.out 1).trans rfl, (blk_cell BK282.out 2).trans rfl⟩ (fun hHeld => ?_); refine with_tabW supercargoref12_Right.tab5 supercargoref12_Right.bits5 (fun HT_ HW_ => ?_)
         generalize w24.drew = w25 at BK282 HB hHeld ⊢
         refine pure_ (i := 0) (N := some 20) (v := ?_) (a' := ?_) (bA 29 1) rfl rfl (any_of HT_.out (by kernel_rfl)) (fun _ _ _ h => h) (Or.inl ⟨by rfl, ?_⟩) ?_ ?_
         rotate_left
         ·intro w'
          go_simp
          with_reducible rfl
         rotate_left
         ·simp only [Act.put, List.setIfInBounds_toArray, List.set_cons_zero, List.set_cons_succ, i64_w, i32_w]
          rfl
         refine take_ (i := 1) (N := some 21) (v := ?_) (a' := ?_) (bA 29 3) rfl rfl (take_ofW HT_.out HW_.out (by kernel_rfl)) (fun _ _ _ h => h) (Or.inl ⟨by rfl, ?_⟩) hHeld ?_ ?_
         rotate_left
         ·rintro w' ⟨s0, s1, s2⟩
          go_simp
          with_reducible rfl
         rotate_left
         ·simp only [Act.put, List.setIfInBounds_toArray, List.set_cons_zero, List.set_cons_succ, i64_w, i32_w]
          rfl
         refine one_ (i := 2) (N := some 22) (bA 29 7) rfl rfl (one_of HT_.out (by kernel_rfl)) (by decide) (fun K hK => ?_)
         refine goes_ Tryz.func68 (by kernel_rfl) rfl #[.string ((rd_T44 l1 x7_1).f0)] (by rfl) rfl rfl (by (try simp only [List.map_toArray, List.map_cons, List.map_nil]); first | done | rfl | (simp only [List.length_drop, List.length_take]; rfl)) ?_
         with_reducible refine (supercargoref03_Right.calls k1 ((rd_T44 l1 x7_1).f0) true _ A9.out).mono ?_
         rintro e w26 ⟨rfl, hb⟩
         refine ⟨_, rfl, ?_⟩
         have n0_ := Aside0.mk (blk_below (g := gb282) (o := .cells #[.string ((rd_T44 l1 x7_1).f0), .int .i64 ((rd_T44 l1 x7_1).f1), .slice A281_2 ((rd_T44 l1 x7_1).f2).length c281_2] 44 (0, 0)) (by (with_reducible repeat (first | refine blk_drewN ?_ _ | refine blk_drew ?_ | refine blk_alloc ?_ _)); exact BK282.out) hb)
         have n1_ := Aside0.mk (below_step (by repeat (first | (with_reducible first | exact HB.out | apply below_alloc | apply pw_below_drewN | apply below_drew1 | refine below_set ?_ GE282.out) | exact HB.out)) hb)
         clear BK282
         clear HB
         have BK282 := n0_
         have HB := n1_
         clear n0_ n1_
         (try clear hb)
         (try clear hb2)
         (try clear hk)
         (try clear hi)
         refine hK.out _ _ ⟨(blk_cell BK282.out 0).trans rfl, (blk_cell BK282.out 1).trans rfl, (blk_cell BK282.out 2).trans rfl⟩ (fun hHeld => ?_)
         clear hK K
         refine norm_ (a' := ?_) ?_ ?_
         rotate_left
         ·show Act.put _ (some 22) _ = _
          simp only [Act.put, List.setIfInBounds_toArray, List.set_cons_zero, List.set_cons_succ, i64_w, i32_w]
          rfl
         refine pure_ (i := 3) (N := some 23) (v := ?_) (a' := ?_) (bA 29 15) rfl rfl (any_of HT_.out (by kernel_rfl)) (fun _ _ _ h => h) (Or.inl ⟨by rfl, ?_⟩) ?_ ?_
         rotate_left
         ·intro w'
          go_simp
          with_reducible rfl
         rotate_left
         ·simp only [Act.put, List.setIfInBounds_toArray, List.set_cons_zero, List.set_cons_succ, i64_w, i32_w]
          rfl
         refine pure_ (i := 4) (N := some 24) (v := ?_) (a' := ?_) (bA 29 31) rfl rfl (any_of HT_.out (by kernel_rfl)) (fun _ _ _ h => h) (Or.inl ⟨by rfl, ?_⟩) ?_ ?_
         rotate_left
         ·intro w'
          go_simp
          with_reducible rfl
         rotate_left
         ·simp only [Act.put, List.setIfInBounds_toArray, List.set_cons_zero, List.set_cons_succ, i64_w, i32_w]
          rfl
         refine pure_ (i := 5) (N := some 25) (v := ?_) (a' := ?_) (bA 29 63) rfl rfl (any_of HT_.out (by kernel_rfl)) (fun _ _ _ h => h) (Or.inl ⟨by rfl, ?_⟩) ?_ ?_
         rotate_left
         ·intro w'
          go_simp
          with_reducible rfl
         rotate_left
         ·simp only [Act.put, List.setIfInBounds_toArray, List.set_cons_zero, List.set_cons_succ, i64_w, i32_w]
          rfl
         refine take_ (i := 6) (N := some 26) (v := ?_) (a' := ?_) (bA 29 127) rfl rfl (take_ofW HT_.out HW_.out (by kernel_rfl)) (fun _ _ _ h => h) (Or.inl ⟨by rfl, ?_⟩) hHeld ?_ ?_
         rotate_left
         ·rintro w' ⟨s0, s1, s2⟩
          go_simp
          with_reducible rfl
         rotate_left
         ·simp only [Act.put, List.setIfInBounds_toArray, List.set_cons_zero, List.set_cons_succ, i64_w, i32_w]
          rfl
         refine pure_ (i := 7) (N := some 27) (v := ?_) (a' := ?_) (bA 29 255) rfl rfl (any_of HT_.out (by kernel_rfl)) (fun _ _ _ h => h) (Or.inl ⟨by rfl, ?_⟩) ?_ ?_
         rotate_left
         ·intro w'
          go_simp
          with_reducible rfl
         rotate_left
         ·simp only [Act.put, List.setIfInBounds_toArray, List.set_cons_zero, List.set_cons_succ, i64_w, i32_w]
          rfl
         refine pure_ (i := 8) (N := some 28) (v := ?_) (a' := ?_) (bA 29 511) rfl rfl (any_of HT_.out (by kernel_rfl)) (fun _ _ _ h => h) (Or.inl ⟨by rfl, ?_⟩) ?_ ?_
         rotate_left
         ·intro w'
          go_simp
          with_reducible rfl
         rotate_left
         ·simp only [Act.put, List.setIfInBounds_toArray, List.set_cons_zero, List.set_cons_succ, i64_w, i32_w]
          rfl
         refine pure_ (i := 9) (N := some 29) (v := ?_) (a' := ?_) (bA 29 1023) rfl rfl (any_of HT_.out (by kernel_rfl)) (fun _ _ _ h => h) (Or.inl ⟨by rfl, ?_⟩) ?_ ?_
         rotate_left
         ·intro w'
          go_simp
          with_reducible rfl
         rotate_left
         ·simp only [Act.put, List.setIfInBounds_toArray, List.set_cons_zero, List.set_cons_succ, i64_w, i32_w]
          rfl
         refine pure_ (i := 10) (N := some 30) (v := ?_) (a' := ?_) (bA 29 2047) rfl rfl (any_of HT_.out (by kernel_rfl)) (fun _ _ _ h => h) (Or.inl ⟨by rfl, ?_⟩) ?_ ?_
         rotate_left
         ·intro w'
          go_simp
          with_reducible rfl
         rotate_left
         ·simp only [Act.put, List.setIfInBounds_toArray, List.set_cons_zero, List.set_cons_succ, i64_w, i32_w]
          rfl
         refine pure_ (i := 11) (N := some 31) (v := ?_) (a' := ?_) (bA 29 4095) rfl rfl (any_of HT_.out (by kernel_rfl)) (fun _ _ _ h => h) (Or.inl ⟨by rfl, ?_⟩) ?_ ?_
         rotate_left
         ·intro w'
          go_simp
          with_reducible rfl
         rotate_left
         ·simp only [Act.put, List.setIfInBounds_toArray, List.set_cons_zero, List.set_cons_succ, i64_w, i32_w]
          rfl
         refine pure_ (i := 12) (N := some 32) (v := ?_) (a' := ?_) (bA 29 8191) rfl rfl (any_of HT_.out (by kernel_rfl)) (fun _ _ _ h => h) (Or.inl ⟨by rfl, ?_⟩) ?_ ?_
         rotate_left
         ·intro w'
          go_simp
          with_reducible rfl
         rotate_left
         ·simp only [Act.put, List.setIfInBounds_toArray, List.set_cons_zero, List.set_cons_succ, i64_w, i32_w]
          rfl
         refine pure_ (i := 14) (N := some 34) (v := ?_) (a' := ?_) (bA 29 24575) rfl rfl (any_of HT_.out (by kernel_rfl)) (fun _ _ _ h => h) (Or.inl ⟨by rfl, ?_⟩) ?_ ?_
         rotate_left
         ·intro w'
          go_simp
          with_reducible rfl
         rotate_left
         ·simp only [Act.put, List.setIfInBounds_toArray, List.set_cons_zero, List.set_cons_succ, i64_w, i32_w]
          rfl
         refine take_ (i := 13) (N := some 33) (v := ?_) (a' := ?_) (bA 29 32767) rfl rfl (take_ofW HT_.out HW_.out (by kernel_rfl)) (fun _ _ _ h => h) (Or.inl ⟨by rfl, ?_⟩) hHeld ?_ ?_
         rotate_left
         ·rintro w' ⟨s0, s1, s2⟩
          go_simp
          with_reducible rfl
         rotate_left
         ·simp only [Act.put, List.setIfInBounds_toArray, List.set_cons_zero, List.set_cons_succ, i64_w, i32_w]
          rfl
         refine take_ (i := 15) (N := some 35) (v := ?_) (a' := ?_) (bA 29 65535) rfl rfl (take_ofW HT_.out HW_.out (by kernel_rfl)) (fun _ _ _ h => h) (Or.inl ⟨by rfl, ?_⟩) hHeld ?_ ?_
         rotate_left
         ·rintro w' ⟨s0, s1, s2⟩
          go_simp
          with_reducible rfl
         rotate_left
         ·simp only [Act.put, List.setIfInBounds_toArray, List.set_cons_zero, List.set_cons_succ, i64_w, i32_w]
          rfl
         refine one_ (i := 16) (N := some 36) (bA 29 131071) rfl rfl (one_of HT_.out (by kernel_rfl)) (by decide) (fun K hK => ?_)
         refine goes_ Tryz.func28 (by kernel_rfl) rfl #[.slice A0 l0.length c0, .int .i64 ((rd_T44 l1 x7_1).f1), .slice A281_2 ((rd_T44 l1 x7_1).f2).length c281_2] (by rfl) rfl rfl (by (try simp only [List.map_toArray, List.map_cons, List.map_nil]); first | done | rfl | (simp only [List.length_drop, List.length_take]; rfl)) ?_
         with_reducible refine (supercargoref12_Go.calls k1 _ _ l0 ((rd_T44 l1 x7_1).f1) _ _ ((rd_T44 l1 x7_1).f2) false _ ?side1 ?side2 ?side3 ?side4 A15.out).mono ?_
         (case side1 => repeat (first | exact (Kd.C_below HR0.out HB.out) | (with_reducible refine Kd.C_alloc ?_ _) | (with_reducible refine Kd.C_drewN ?_ _) | (with_reducible refine Kd.C_drew ?_)))
         (case side2 => exact HC0.out)
         (case side3 => repeat (first | exact (Kd.C_below HR281_2.out HB.out) | (with_reducible refine Kd.C_alloc ?_ _) | (with_reducible refine Kd.C_drewN ?_ _) | (with_reducible refine Kd.C_drew ?_)))
         (case side4 => exact HC281_2.out)
         rintro e w27 ⟨rfl, hb⟩
         refine ⟨_, rfl, ?_⟩
         have n0_ := Aside0.mk (blk_below (g := gb282) (o := .cells #[.string ((rd_T44 l1 x7_1).f0), .int .i64 ((rd_T44 l1 x7_1).f1), .slice A281_2 ((rd_T44 l1 x7_1).f2).length c281_2] 44 (0, 0)) (by (with_reducible repeat (first | refine blk_drewN ?_ _ | refine blk_drew ?_ | refine blk_alloc ?_ _)); exact BK282.out) hb)
         have n1_ := Aside0.mk (below_step (by repeat (first | (with_reducible first | exact HB.out | apply below_alloc | apply pw_below_drewN | apply below_drew1 | refine below_set ?_ GE282.out) | exact HB.out)) hb)
         clear BK282
         clear HB
         have BK282 := n0_
         have HB := n1_
         clear n0_ n1_
         (try clear hb)
         (try clear hb2)
         (try clear hk)
         (try clear hi)
         refine hK.out _ _ ⟨(blk_cell BK282.out 0).trans rfl, (blk_cell BK282.out 1).trans rfl, (blk_cell BK282.out 2).trans rfl⟩ (fun hHeld => ?_)
         clear hK K
         refine norm_ (a' := ?_) ?_ ?_
         rotate_left
         ·show Act.put _ (some 36) _ = _
          simp only [Act.put, List.setIfInBounds_toArray, List.set_cons_zero, List.set_cons_succ, i64_w, i32_w]
          rfl
         refine pure_ (i := 17) (N := some 37) (v := ?_) (a' := ?_) (bA 29 262143) rfl rfl (any_of HT_.out (by kernel_rfl)) (fun _ _ _ h => h) (Or.inl ⟨by rfl, ?_⟩) ?_ ?_
         rotate_left
         ·intro w'
          go_simp
          with_reducible rfl
         rotate_left
         ·simp only [Act.put, List.setIfInBounds_toArray, List.set_cons_zero, List.set_cons_succ, i64_w, i32_w]
          rfl
         refine pure_ (i := 18) (N := some 38) (v := ?_) (a' := ?_) (bA 29 524287) rfl rfl (any_of HT_.out (by kernel_rfl)) (fun _ _ _ h => h) (Or.inl ⟨by rfl, ?_⟩) ?_ ?_
         rotate_left
         ·intro w'
          go_simp
          with_reducible rfl
         rotate_left
         ·simp only [Act.put, List.setIfInBounds_toArray, List.set_cons_zero, List.set_cons_succ, i64_w, i32_w]
          rfl
         refine pure_ (i := 19) (N := some 39) (v := ?_) (a' := ?_) (bA 29 1048575) rfl rfl (any_of HT_.out (by kernel_rfl)) (fun _ _ _ h => h) (Or.inl ⟨by rfl, ?_⟩) ?_ ?_
         rotate_left
         ·intro w'
          go_simp
          with_reducible rfl
         rotate_left
         ·simp only [Act.put, List.setIfInBounds_toArray, List.set_cons_zero, List.set_cons_succ, i64_w, i32_w]
          rfl
         refine pure_ (i := 20) (N := some 40) (v := undef) (a' := ?_) (bA 29 2097151) rfl rfl (any_of HT_.out (by kernel_rfl)) (fun _ _ _ h => h) (Or.inr ⟨by rfl, rfl⟩) ?_ ?_
         rotate_left
         ·simp only [Act.put, List.setIfInBounds_toArray, List.set_cons_zero, List.set_cons_succ, i64_w, i32_w]
          rfl
         refine pure_ (i := 21) (N := some 41) (v := undef) (a' := ?_) (bA 29 4194303) rfl rfl (any_of HT_.out (by kernel_rfl)) (fun _ _ _ h => h) (Or.inr ⟨by rfl, rfl⟩) ?_ ?_
         rotate_left
         ·simp only [Act.put, List.setIfInBounds_toArray, List.set_cons_zero, List.set_cons_succ, i64_w, i32_w]
          rfl
         refine pure_ (i := 22) (N := some 42) (v := undef) (a' := ?_) (bA 29 8388607) rfl rfl (any_of HT_.out (by kernel_rfl)) (fun _ _ _ h => h) (Or.inr ⟨by rfl, rfl⟩) ?_ ?_
         rotate_left
         ·simp only [Act.put, List.setIfInBounds_toArray, List.set_cons_zero, List.set_cons_succ, i64_w, i32_w]
          rfl
         refine pure_ (i := 23) (N := some 43) (v := undef) (a' := ?_) (bA 29 16777215) rfl rfl (any_of HT_.out (by kernel_rfl)) (fun _ _ _ h => h) (Or.inr ⟨by rfl, rfl⟩) ?_ ?_
         rotate_left
         ·simp only [Act.put, List.setIfInBounds_toArray, List.set_cons_zero, List.set_cons_succ, i64_w, i32_w]
          rfl
         refine pure_ (i := 24) (N := some 44) (v := undef) (a' := ?_) (bA 29 33554431) rfl rfl (any_of HT_.out (by kernel_rfl)) (fun _ _ _ h => h) (Or.inr ⟨by rfl, rfl⟩) ?_ ?_
         rotate_left
         ·simp only [Act.put, List.setIfInBounds_toArray, List.set_cons_zero, List.set_cons_succ, i64_w, i32_w]
          rfl
         refine pure_ (i := 25) (N := some 45) (v := undef) (a' := ?_) (bA 29 67108863) rfl rfl (any_of HT_.out (by kernel_rfl)) (fun _ _ _ h => h) (Or.inr ⟨by rfl, rfl⟩) ?_ ?_
         rotate_left
         ·simp only [Act.put, List.setIfInBounds_toArray, List.set_cons_zero, List.set_cons_succ, i64_w, i32_w]
          rfl
         refine pure_ (i := 26) (N := some 46) (v := undef) (a' := ?_) (bA 29 134217727) rfl rfl (any_of HT_.out (by kernel_rfl)) (fun _ _ _ h => h) (Or.inr ⟨by rfl, rfl⟩) ?_ ?_
         rotate_left
         ·simp only [Act.put, List.setIfInBounds_toArray, List.set_cons_zero, List.set_cons_succ, i64_w, i32_w]
          rfl
         refine pure_ (i := 27) (N := some 47) (v := undef) (a' := ?_) (bA 29 268435455) rfl rfl (any_of HT_.out (by kernel_rfl)) (fun _ _ _ h => h) (Or.inr ⟨by rfl, rfl⟩) ?_ ?_
         rotate_left
         ·simp only [Act.put, List.setIfInBounds_toArray, List.set_cons_zero, List.set_cons_succ, i64_w, i32_w]
          rfl
         refine pure_ (i := 28) (N := some 48) (v := ?_) (a' := ?_) (bA 29 536870911) rfl rfl (any_of HT_.out (by kernel_rfl)) (fun _ _ _ h => h) (Or.inl ⟨by rfl, ?_⟩) ?_ ?_
         rotate_left
         ·intro w'
          go_simp
          with_reducible rfl
         rotate_left
         ·simp only [Act.put, List.setIfInBounds_toArray, List.set_cons_zero, List.set_cons_succ, i64_w, i32_w]
          rfl
         refine done_ (done_of HT_.out (by kernel_rfl)) ?_
         try go_wp2
         go_meet
         case rel => exact ⟨_, (true), (by first | rfl | (simp; done) | (simp [*]; done)), H', ⟨by have := HK1.out; first | omega | exact Nat.le_refl _⟩, ⟨by (with_reducible repeat (first | refine blk_drewN ?_ _ | refine blk_drew ?_ | refine blk_alloc ?_ _)); exact BK282.out⟩, ⟨by repeat (first | (with_reducible first | exact HB.out | apply below_alloc | apply pw_below_drewN | apply below_drew1 | refine below_set ?_ GE282.out) | exact HB.out)⟩⟩
      ·replace c10 := Bool.eq_false_iff.mpr c10
       subst c10
       have H1 : (supercargoref12_Right.j1 k1 l0 l1 l2 x7_1 true ((rd_T44 l1 x7_1).f0) ((rd_T44 l1 x7_1).f1) ((rd_T44 l1 x7_1).f2)) = some r := by rw [if_neg (show ¬ (false = true) by decide)] at H; exact H
       clear H
       have H := H1
       clear H1
       have H' := Aside0.mk H
       clear H
       try go_wp2
       have n0_ : Aside0 ((((w7.setCell ⟨gb282, 0, none⟩ (.string ((rd_T44 l1 x7_1).f0))).setCell ⟨gb282, 1, none⟩ (.int .i64 ((rd_T44 l1 x7_1).f1))).setCell ⟨gb282, 2, none⟩ (.slice A281_2 ((rd_T44 l1 x7_1).f2).length c281_2)).heap[gb282]? = some (.cells #[.string ((rd_T44 l1 x7_1).f0), .int .i64 ((rd_T44 l1 x7_1).f1), .slice A281_2 ((rd_T44 l1 x7_1).f2).length c281_2] 44 (0, 0))) := ⟨by (with_reducible repeat (first | refine blk_drewN ?_ _ | refine blk_drew ?_ | refine blk_alloc ?_ _)); refine blk_put (cs := #[.string ((rd_T44 l1 x7_1).f0), .int .i64 ((rd_T44 l1 x7_1).f1), .slice none 0 0]) ?_ 2 _ rfl; (with_reducible repeat (first | refine blk_drewN ?_ _ | refine blk_drew ?_ | refine blk_alloc ?_ _)); refine blk_put (cs := #[.string ((rd_T44 l1 x7_1).f0), .int .i64 0, .slice none 0 0]) ?_ 1 _ rfl; (with_reducible repeat (first | refine blk_drewN ?_ _ | refine blk_drew ?_ | refine blk_alloc ?_ _)); refine blk_put (cs := #[.string (⟨#[]⟩ : ByteArray), .int .i64 0, .slice none 0 0]) ?_ 0 _ rfl; (with_reducible repeat (first | refine blk_drewN ?_ _ | refine blk_drew ?_ | refine blk_alloc ?_ _)); exact BK282.out⟩
       have n1_ : Aside0 (Below w.heap.size w (((w7.setCell ⟨gb282, 0, none⟩ (.string ((rd_T44 l1 x7_1).f0))).setCell ⟨gb282, 1, none⟩ (.int .i64 ((rd_T44 l1 x7_1).f1))).setCell ⟨gb282, 2, none⟩ (.slice A281_2 ((rd_T44 l1 x7_1).f2).length c281_2))) := ⟨by repeat (first | (with_reducible first | exact HB.out | apply below_alloc | apply pw_below_drewN | apply below_drew1 | refine below_set ?_ GE282.out) | exact HB.out)⟩
       (try clear BK282)
       (try clear HB)
       generalize (((w7.setCell ⟨gb282, 0, none⟩ (.string ((rd_T44 l1 x7_1).f0))).setCell ⟨gb282, 1, none⟩ (.int .i64 ((rd_T44 l1 x7_1).f1))).setCell ⟨gb282, 2, none⟩ (.slice A281_2 ((rd_T44 l1 x7_1).f2).length c281_2)) = w28 at n0_ n1_ ⊢
       have BK282 := n0_
       have HB := n1_
       clear n0_ n1_
       have n0_ := Aside0.mk (blk_drew BK282.out)
       have n1_ := Aside0.mk (below_drew1 HB.out)
       clear BK282
       clear HB
       have BK282 := n0_
       have HB := n1_
       clear n0_ n1_
       refine start_ (n := 29) (S := fun w' => w'.cell? ⟨gb282, 0, none⟩ = some (.string ((rd_T44 l1 x7_1).f0)) ∧ w'.cell? ⟨gb282, 1, none⟩ = some (.int .i64 ((rd_T44 l1 x7_1).f1)) ∧ w'.cell? ⟨gb282, 2, none⟩ = some (.slice A281_2 ((rd_T44 l1 x7_1).f2).length c281_2)) (ds := []) (bA 29 0) (by kernel_rfl) rfl rfl ⟨(blk_cell BK282.out 0).trans rfl, (blk_cell BK282.out 1).trans rfl, (blk_cell BK282.out 2).trans rfl⟩ (fun hHeld => ?_); refine with_tabW supercargoref12_Right.tab5 supercargoref12_Right.bits5 (fun HT_ HW_ => ?_)
       generalize w28.drew = w29 at BK282 HB hHeld ⊢
       refine pure_ (i := 0) (N := some 20) (v := ?_) (a' := ?_) (bA 29 1) rfl rfl (any_of HT_.out (by kernel_rfl)) (fun _ _ _ h => h) (Or.inl ⟨by rfl, ?_⟩) ?_ ?_
       rotate_left
       ·intro w'
        go_simp
        with_reducible rfl
       rotate_left
       ·simp only [Act.put, List.setIfInBounds_toArray, List.set_cons_zero, List.set_cons_succ, i64_w, i32_w]
        rfl
       refine take_ (i := 1) (N := some 21) (v := ?_) (a' := ?_) (bA 29 3) rfl rfl (take_ofW HT_.out HW_.out (by kernel_rfl)) (fun _ _ _ h => h) (Or.inl ⟨by rfl, ?_⟩) hHeld ?_ ?_
       rotate_left
       ·rintro w' ⟨s0, s1, s2⟩
        go_simp
        with_reducible rfl
       rotate_left
       ·simp only [Act.put, List.setIfInBounds_toArray, List.set_cons_zero, List.set_cons_succ, i64_w, i32_w]
        rfl
       refine one_ (i := 2) (N := some 22) (bA 29 7) rfl rfl (one_of HT_.out (by kernel_rfl)) (by decide) (fun K hK => ?_)
       refine goes_ Tryz.func68 (by kernel_rfl) rfl #[.string ((rd_T44 l1 x7_1).f0)] (by rfl) rfl rfl (by (try simp only [List.map_toArray, List.map_cons, List.map_nil]); first | done | rfl | (simp only [List.length_drop, List.length_take]; rfl)) ?_
       with_reducible refine (supercargoref03_Right.calls k1 ((rd_T44 l1 x7_1).f0) false _ A9.out).mono ?_
       rintro e w30 ⟨rfl, hb⟩
       refine ⟨_, rfl, ?_⟩
       have n0_ := Aside0.mk (blk_below (g := gb282) (o := .cells #[.string ((rd_T44 l1 x7_1).f0), .int .i64 ((rd_T44 l1 x7_1).f1), .slice A281_2 ((rd_T44 l1 x7_1).f2).length c281_2] 44 (0, 0)) (by (with_reducible repeat (first | refine blk_drewN ?_ _ | refine blk_drew ?_ | refine blk_alloc ?_ _)); exact BK282.out) hb)
       have n1_ := Aside0.mk (below_step (by repeat (first | (with_reducible first | exact HB.out | apply below_alloc | apply pw_below_drewN | apply below_drew1 | refine below_set ?_ GE282.out) | exact HB.out)) hb)
       clear BK282
       clear HB
       have BK282 := n0_
       have HB := n1_
       clear n0_ n1_
       (try clear hb)
       (try clear hb2)
       (try clear hk)
       (try clear hi)
       refine hK.out _ _ ⟨(blk_cell BK282.out 0).trans rfl, (blk_cell BK282.out 1).trans rfl, (blk_cell BK282.out 2).trans rfl⟩ (fun hHeld => ?_)
       clear hK K
       refine norm_ (a' := ?_) ?_ ?_
       rotate_left
       ·show Act.put _ (some 22) _ = _
        simp only [Act.put, List.setIfInBounds_toArray, List.set_cons_zero, List.set_cons_succ, i64_w, i32_w]
        rfl
       refine pure_ (i := 3) (N := some 23) (v := ?_) (a' := ?_) (bA 29 15) rfl rfl (any_of HT_.out (by kernel_rfl)) (fun _ _ _ h => h) (Or.inl ⟨by rfl, ?_⟩) ?_ ?_
       rotate_left
       ·intro w'
        go_simp
        with_reducible rfl
       rotate_left
       ·simp only [Act.put, List.setIfInBounds_toArray, List.set_cons_zero, List.set_cons_succ, i64_w, i32_w]
        rfl
       refine pure_ (i := 4) (N := some 24) (v := ?_) (a' := ?_) (bA 29 31) rfl rfl (any_of HT_.out (by kernel_rfl)) (fun _ _ _ h => h) (Or.inl ⟨by rfl, ?_⟩) ?_ ?_
       rotate_left
       ·intro w'
        go_simp
        with_reducible rfl
       rotate_left
       ·simp only [Act.put, List.setIfInBounds_toArray, List.set_cons_zero, List.set_cons_succ, i64_w, i32_w]
        rfl
       refine pure_ (i := 5) (N := some 25) (v := undef) (a' := ?_) (bA 29 63) rfl rfl (any_of HT_.out (by kernel_rfl)) (fun _ _ _ h => h) (Or.inr ⟨by rfl, rfl⟩) ?_ ?_
       rotate_left
       ·simp only [Act.put, List.setIfInBounds_toArray, List.set_cons_zero, List.set_cons_succ, i64_w, i32_w]
        rfl
       refine pure_ (i := 6) (N := some 26) (v := undef) (a' := ?_) (bA 29 127) rfl rfl (any_of HT_.out (by kernel_rfl)) (fun _ _ _ h => h) (Or.inr ⟨by rfl, rfl⟩) ?_ ?_
       rotate_left
       ·simp only [Act.put, List.setIfInBounds_toArray, List.set_cons_zero, List.set_cons_succ, i64_w, i32_w]
        rfl
       refine pure_ (i := 7) (N := some 27) (v := undef) (a' := ?_) (bA 29 255) rfl rfl (any_of HT_.out (by kernel_rfl)) (fun _ _ _ h => h) (Or.inr ⟨by rfl, rfl⟩) ?_ ?_
       rotate_left
       ·simp only [Act.put, List.setIfInBounds_toArray, List.set_cons_zero, List.set_cons_succ, i64_w, i32_w]
        rfl
       refine pure_ (i := 8) (N := some 28) (v := undef) (a' := ?_) (bA 29 511) rfl rfl (any_of HT_.out (by kernel_rfl)) (fun _ _ _ h => h) (Or.inr ⟨by rfl, rfl⟩) ?_ ?_
       rotate_left
       ·simp only [Act.put, List.setIfInBounds_toArray, List.set_cons_zero, List.set_cons_succ, i64_w, i32_w]
        rfl
       refine pure_ (i := 9) (N := some 29) (v := ?_) (a' := ?_) (bA 29 1023) rfl rfl (any_of HT_.out (by kernel_rfl)) (fun _ _ _ h => h) (Or.inl ⟨by rfl, ?_⟩) ?_ ?_
       rotate_left
       ·intro w'
        go_simp
        with_reducible rfl
       rotate_left
       ·simp only [Act.put, List.setIfInBounds_toArray, List.set_cons_zero, List.set_cons_succ, i64_w, i32_w]
        rfl
       refine pure_ (i := 10) (N := some 30) (v := ?_) (a' := ?_) (bA 29 2047) rfl rfl (any_of HT_.out (by kernel_rfl)) (fun _ _ _ h => h) (Or.inl ⟨by rfl, ?_⟩) ?_ ?_
       rotate_left
       ·intro w'
        go_simp
        with_reducible rfl
       rotate_left
       ·simp only [Act.put, List.setIfInBounds_toArray, List.set_cons_zero, List.set_cons_succ, i64_w, i32_w]
        rfl
       refine pure_ (i := 11) (N := some 31) (v := undef) (a' := ?_) (bA 29 4095) rfl rfl (any_of HT_.out (by kernel_rfl)) (fun _ _ _ h => h) (Or.inr ⟨by rfl, rfl⟩) ?_ ?_
       rotate_left
       ·simp only [Act.put, List.setIfInBounds_toArray, List.set_cons_zero, List.set_cons_succ, i64_w, i32_w]
        rfl
       refine pure_ (i := 12) (N := some 32) (v := undef) (a' := ?_) (bA 29 8191) rfl rfl (any_of HT_.out (by kernel_rfl)) (fun _ _ _ h => h) (Or.inr ⟨by rfl, rfl⟩) ?_ ?_
       rotate_left
       ·simp only [Act.put, List.setIfInBounds_toArray, List.set_cons_zero, List.set_cons_succ, i64_w, i32_w]
        rfl
       refine pure_ (i := 13) (N := some 33) (v := undef) (a' := ?_) (bA 29 16383) rfl rfl (any_of HT_.out (by kernel_rfl)) (fun _ _ _ h => h) (Or.inr ⟨by rfl, rfl⟩) ?_ ?_
       rotate_left
       ·simp only [Act.put, List.setIfInBounds_toArray, List.set_cons_zero, List.set_cons_succ, i64_w, i32_w]
        rfl
       refine pure_ (i := 14) (N := some 34) (v := undef) (a' := ?_) (bA 29 32767) rfl rfl (any_of HT_.out (by kernel_rfl)) (fun _ _ _ h => h) (Or.inr ⟨by rfl, rfl⟩) ?_ ?_
       rotate_left
       ·simp only [Act.put, List.setIfInBounds_toArray, List.set_cons_zero, List.set_cons_succ, i64_w, i32_w]
        rfl
       refine pure_ (i := 15) (N := some 35) (v := undef) (a' := ?_) (bA 29 65535) rfl rfl (any_of HT_.out (by kernel_rfl)) (fun _ _ _ h => h) (Or.inr ⟨by rfl, rfl⟩) ?_ ?_
       rotate_left
       ·simp only [Act.put, List.setIfInBounds_toArray, List.set_cons_zero, List.set_cons_succ, i64_w, i32_w]
        rfl
       refine pure_ (i := 16) (N := some 36) (v := undef) (a' := ?_) (bA 29 131071) rfl rfl (any_of HT_.out (by kernel_rfl)) (fun _ _ _ h => h) (Or.inr ⟨by rfl, rfl⟩) ?_ ?_
       rotate_left
       ·simp only [Act.put, List.setIfInBounds_toArray, List.set_cons_zero, List.set_cons_succ, i64_w, i32_w]
        rfl
       refine pure_ (i := 17) (N := some 37) (v := undef) (a' := ?_) (bA 29 262143) rfl rfl (any_of HT_.out (by kernel_rfl)) (fun _ _ _ h => h) (Or.inr ⟨by rfl, rfl⟩) ?_ ?_
       rotate_left
       ·simp only [Act.put, List.setIfInBounds_toArray, List.set_cons_zero, List.set_cons_succ, i64_w, i32_w]
        rfl
       refine pure_ (i := 18) (N := some 38) (v := ?_) (a' := ?_) (bA 29 524287) rfl rfl (any_of HT_.out (by kernel_rfl)) (fun _ _ _ h => h) (Or.inl ⟨by rfl, ?_⟩) ?_ ?_
       rotate_left
       ·intro w'
        go_simp
        with_reducible rfl
       rotate_left
       ·simp only [Act.put, List.setIfInBounds_toArray, List.set_cons_zero, List.set_cons_succ, i64_w, i32_w]
        rfl
       refine pure_ (i := 19) (N := some 39) (v := ?_) (a' := ?_) (bA 29 1048575) rfl rfl (any_of HT_.out (by kernel_rfl)) (fun _ _ _ h => h) (Or.inl ⟨by rfl, ?_⟩) ?_ ?_
       rotate_left
       ·intro w'
        go_simp
        with_reducible rfl
       rotate_left
       ·simp only [Act.put, List.setIfInBounds_toArray, List.set_cons_zero, List.set_cons_succ, i64_w, i32_w]
        rfl
       refine pure_ (i := 20) (N := some 40) (v := undef) (a' := ?_) (bA 29 2097151) rfl rfl (any_of HT_.out (by kernel_rfl)) (fun _ _ _ h => h) (Or.inr ⟨by rfl, rfl⟩) ?_ ?_
       rotate_left
       ·simp only [Act.put, List.setIfInBounds_toArray, List.set_cons_zero, List.set_cons_succ, i64_w, i32_w]
        rfl
       refine pure_ (i := 21) (N := some 41) (v := undef) (a' := ?_) (bA 29 4194303) rfl rfl (any_of HT_.out (by kernel_rfl)) (fun _ _ _ h => h) (Or.inr ⟨by rfl, rfl⟩) ?_ ?_
       rotate_left
       ·simp only [Act.put, List.setIfInBounds_toArray, List.set_cons_zero, List.set_cons_succ, i64_w, i32_w]
        rfl
       refine pure_ (i := 22) (N := some 42) (v := undef) (a' := ?_) (bA 29 8388607) rfl rfl (any_of HT_.out (by kernel_rfl)) (fun _ _ _ h => h) (Or.inr ⟨by rfl, rfl⟩) ?_ ?_
       rotate_left
       ·simp only [Act.put, List.setIfInBounds_toArray, List.set_cons_zero, List.set_cons_succ, i64_w, i32_w]
        rfl
       refine pure_ (i := 23) (N := some 43) (v := undef) (a' := ?_) (bA 29 16777215) rfl rfl (any_of HT_.out (by kernel_rfl)) (fun _ _ _ h => h) (Or.inr ⟨by rfl, rfl⟩) ?_ ?_
       rotate_left
       ·simp only [Act.put, List.setIfInBounds_toArray, List.set_cons_zero, List.set_cons_succ, i64_w, i32_w]
        rfl
       refine pure_ (i := 24) (N := some 44) (v := undef) (a' := ?_) (bA 29 33554431) rfl rfl (any_of HT_.out (by kernel_rfl)) (fun _ _ _ h => h) (Or.inr ⟨by rfl, rfl⟩) ?_ ?_
       rotate_left
       ·simp only [Act.put, List.setIfInBounds_toArray, List.set_cons_zero, List.set_cons_succ, i64_w, i32_w]
        rfl
       refine pure_ (i := 25) (N := some 45) (v := undef) (a' := ?_) (bA 29 67108863) rfl rfl (any_of HT_.out (by kernel_rfl)) (fun _ _ _ h => h) (Or.inr ⟨by rfl, rfl⟩) ?_ ?_
       rotate_left
       ·simp only [Act.put, List.setIfInBounds_toArray, List.set_cons_zero, List.set_cons_succ, i64_w, i32_w]
        rfl
       refine pure_ (i := 26) (N := some 46) (v := undef) (a' := ?_) (bA 29 134217727) rfl rfl (any_of HT_.out (by kernel_rfl)) (fun _ _ _ h => h) (Or.inr ⟨by rfl, rfl⟩) ?_ ?_
       rotate_left
       ·simp only [Act.put, List.setIfInBounds_toArray, List.set_cons_zero, List.set_cons_succ, i64_w, i32_w]
        rfl
       refine pure_ (i := 27) (N := some 47) (v := undef) (a' := ?_) (bA 29 268435455) rfl rfl (any_of HT_.out (by kernel_rfl)) (fun _ _ _ h => h) (Or.inr ⟨by rfl, rfl⟩) ?_ ?_
       rotate_left
       ·simp only [Act.put, List.setIfInBounds_toArray, List.set_cons_zero, List.set_cons_succ, i64_w, i32_w]
        rfl
       refine pure_ (i := 28) (N := some 48) (v := ?_) (a' := ?_) (bA 29 536870911) rfl rfl (any_of HT_.out (by kernel_rfl)) (fun _ _ _ h => h) (Or.inl ⟨by rfl, ?_⟩) ?_ ?_
       rotate_left
       ·intro w'
        go_simp
        with_reducible rfl
       rotate_left
       ·simp only [Act.put, List.setIfInBounds_toArray, List.set_cons_zero, List.set_cons_succ, i64_w, i32_w]
        rfl
       refine done_ (done_of HT_.out (by kernel_rfl)) ?_
       try go_wp2
       go_meet
       case rel => exact ⟨_, (true), (by first | rfl | (simp; done) | (simp [*]; done)), H', ⟨by have := HK1.out; first | omega | exact Nat.le_refl _⟩, ⟨by (with_reducible repeat (first | refine blk_drewN ?_ _ | refine blk_drew ?_ | refine blk_alloc ?_ _)); exact BK282.out⟩, ⟨by repeat (first | (with_reducible first | exact HB.out | apply below_alloc | apply pw_below_drewN | apply below_drew1 | refine below_set ?_ GE282.out) | exact HB.out)⟩⟩
     case rest =>
      clear HC6
      try clear c1
      try clear c2
      try clear p2
      try clear c3
      try clear c6
      try clear c10
      try clear c16
      try clear c28
      obtain ⟨kq, x48_5, rfl, HA, HJ5, BK282, HB⟩ := hcut
      cases kq with
      | zero => exact absurd HA.out (by simp [supercargoref12_Right.j1])
      | succ kj5 =>
       have H := HA.out
       clear HA
       simp only [supercargoref12_Right.j1] at H
       by_cases c31 : x48_5 = true
       ·subst c31
        have H1 : (some false) = some r := by rw [if_pos rfl] at H; exact H
        clear H
        have H := H1
        clear H1
        obtain rfl := Option.some.inj H
        go_wp2
        go_ret
        exact ⟨by first | rfl | (simp [errW_none, errW_some] <;> rfl) | (simp [*, errW_none, errW_some] <;> rfl), by repeat (first | (with_reducible first | exact HB.out | apply below_alloc | apply pw_below_drewN | apply below_drew1 | refine below_set ?_ GE282.out) | exact HB.out)⟩
       ·replace c31 := Bool.eq_false_iff.mpr c31
        subst c31
        have H1 : (supercargoref12_Right.l1 kj5 l0 l1 l2 x7_1 0 ((rd_T44 l1 x7_1).f0) ((rd_T44 l1 x7_1).f1) ((rd_T44 l1 x7_1).f2)) = some r := by rw [if_neg (show ¬ (false = true) by decide)] at H; exact H
        clear H
        have H := H1
        clear H1
        have H' := Aside0.mk H
        clear H
        go_wp2
        go_loopg [9] kj5 (fun kq v9 w' => ∃ (x9_3 : Int), v9 = .int .i64 x9_3 ∧ Aside0 (supercargoref12_Right.l1 kq l0 l1 l2 x7_1 x9_3 ((rd_T44 l1 x7_1).f0) ((rd_T44 l1 x7_1).f1) ((rd_T44 l1 x7_1).f2) = some r) ∧ Aside0 (kq ≤ kj5) ∧ Aside0 (w'.heap[gb282]? = some (.cells #[.string ((rd_T44 l1 x7_1).f0), .int .i64 ((rd_T44 l1 x7_1).f1), (.slice A281_2 ((rd_T44 l1 x7_1).f2).length c281_2)] 44 (0, 0))) ∧ Aside0 (Below w.heap.size w w'))
        case atStart => exact ⟨(0), (by first | rfl | (simp; done) | (simp [*]; done)), H', ⟨Nat.le_refl _⟩, ⟨by (with_reducible repeat (first | refine blk_drewN ?_ _ | refine blk_drew ?_ | refine blk_alloc ?_ _)); exact BK282.out⟩, ⟨by repeat (first | (with_reducible first | exact HB.out | apply below_alloc | apply pw_below_drewN | apply below_drew1 | refine below_set ?_ GE282.out) | exact HB.out)⟩⟩
        case round =>
         clear H'
         try clear c1
         try clear c2
         try clear p2
         try clear c3
         try clear c6
         try clear c10
         try clear c16
         try clear c28
         try clear c31
         try clear p2
         obtain ⟨x9_3, rfl, HA, HK3, BK282, HB⟩ := hrel
         cases gk with
         | zero => exact absurd HA.out (by simp [supercargoref12_Right.l1])
         | succ k3 =>
          have H := HA.out
          clear HA
          simp only [supercargoref12_Right.l1] at H
          by_cases c32 : x9_3 < x7_1
          ·rw [if_pos c32] at H
           have c32b0 : decide (x9_3 < x7_1) = true := decide_eq_true c32
           clear c32
           by_cases c33 : 0 ≤ x9_3
           ·rw [if_pos c33] at H
            have c33b0 : decide (0 ≤ x9_3) = true := decide_eq_true c33
            clear c33
            by_cases c34 : x9_3 < (l1.length : Int)
            ·rw [if_pos c34] at H
             have c34b0 : decide (x9_3 < (l1.length : Int)) = true := decide_eq_true c34
             clear c34
             by_cases c35 : ((rd_T44 l1 x9_3).f0).toList = ((rd_T44 l1 x7_1).f0).toList
             ·rw [if_pos c35] at H
              have c35b0 : (((rd_T44 l1 x9_3).f0).toList == ((rd_T44 l1 x7_1).f0).toList) = true := beq_iff_eq.mpr c35
              have c35b1 : (((rd_T44 l1 x9_3).f0).toList != ((rd_T44 l1 x7_1).f0).toList) = false := bne_eq_false_iff_eq.mpr c35
              clear c35
              obtain rfl := Option.some.inj H
              try go_wp2
              have n0_ := Aside0.mk (blk_drew BK282.out)
              have n1_ := Aside0.mk (below_drew1 HB.out)
              clear BK282
              clear HB
              have BK282 := n0_
              have HB := n1_
              clear n0_ n1_
              have p288 : 0 ≤ (x9_3 : Int) := of_decide_eq_true (by first | (with_reducible assumption) | assumption)
              have q288 : x9_3 < (l1.length : Int) := of_decide_eq_true (by first | (with_reducible assumption) | assumption)
              obtain ⟨ad288, A288_2, c288_2, e288, hx288_0, hx288_1, hx288_2, hl288_2, hi288_2⟩ := at_T44 HR1.out x9_3 p288 q288
              have hw288_2 := hx288_2
              have hw288_1 := hx288_1
              have hw288_0 := hx288_0
              obtain rfl : ad281 = ad288 := (by injection e288)
              replace hx288_0 := (HB.out.cell (World.block_lt_of_cell? w _ hx288_0)).trans hx288_0
              replace hx288_1 := (HB.out.cell (World.block_lt_of_cell? w _ hx288_1)).trans hx288_1
              replace hx288_2 := (HB.out.cell (World.block_lt_of_cell? w _ hx288_2)).trans hx288_2
              have HR288_2 := Aside0.mk hi288_2
              have HC288_2 := Aside0.mk hl288_2
              clear hi288_2 hl288_2
              replace p288 := eq_true p288
              replace q288 := eq_true q288
              refine start_ (n := 8) (S := fun w' => w'.cell? ⟨gb282, 0, none⟩ = some (.string ((rd_T44 l1 x7_1).f0)) ∧ w'.cell? ⟨gb282, 1, none⟩ = some (.int .i64 ((rd_T44 l1 x7_1).f1)) ∧ w'.cell? ⟨gb282, 2, none⟩ = some (.slice A281_2 ((rd_T44 l1 x7_1).f2).length c281_2) ∧ w'.cell? (ad281.add ((x9_3).toNat * 3)) = some (.string ((rd_T44 l1 x9_3).f0)) ∧ w'.cell? ⟨(ad281.add ((x9_3).toNat * 3)).block, (ad281.add ((x9_3).toNat * 3)).off + 1, none⟩ = some (.int .i64 ((rd_T44 l1 x9_3).f1)) ∧ w'.cell? ⟨(ad281.add ((x9_3).toNat * 3)).block, (ad281.add ((x9_3).toNat * 3)).off + 2, none⟩ = some (.slice A288_2 ((rd_T44 l1 x9_3).f2).length c288_2)) (ds := []) (bA 8 0) (by kernel_rfl) rfl rfl ⟨(blk_cell BK282.out 0).trans rfl, (blk_cell BK282.out 1).trans rfl, (blk_cell BK282.out 2).trans rfl, ((HB.out.cell (World.block_lt_of_cell? w _ hw288_0)).trans hw288_0), ((HB.out.cell (World.block_lt_of_cell? w _ hw288_1)).trans hw288_1), ((HB.out.cell (World.block_lt_of_cell? w _ hw288_2)).trans hw288_2)⟩ (fun hHeld => ?_); refine with_tabW supercargoref12_Right.tab10 supercargoref12_Right.bits10 (fun HT_ HW_ => ?_)
              generalize wr.drew = w36 at BK282 HB HR288_2 hx288_0 hx288_1 hx288_2 hHeld ⊢
              refine pure_ (i := 0) (N := some 54) (v := ?_) (a' := ?_) (bA 8 1) rfl rfl (any_of HT_.out (by kernel_rfl)) (fun _ _ _ h => h) (Or.inl ⟨by rfl, ?_⟩) ?_ ?_
              rotate_left
              ·intro w'
               go_simp
               with_reducible rfl
              rotate_left
              ·simp only [Act.put, List.setIfInBounds_toArray, List.set_cons_zero, List.set_cons_succ, i64_w, i32_w]
               rfl
              refine pure_ (i := 1) (N := some 55) (v := ?_) (a' := ?_) (bA 8 3) rfl rfl (any_of HT_.out (by kernel_rfl)) (fun _ _ _ h => h) (Or.inl ⟨by rfl, ?_⟩) ?_ ?_
              rotate_left
              ·intro w'
               go_simp
               with_reducible rfl
              rotate_left
              ·simp only [Act.put, List.setIfInBounds_toArray, List.set_cons_zero, List.set_cons_succ, i64_w, i32_w]
               rfl
              refine pure_ (i := 2) (N := some 56) (v := ?_) (a' := ?_) (bA 8 7) rfl rfl (any_of HT_.out (by kernel_rfl)) (fun _ _ _ h => h) (Or.inl ⟨by rfl, ?_⟩) ?_ ?_
              rotate_left
              ·intro w'
               go_simp
               with_reducible rfl
              rotate_left
              ·simp only [Act.put, List.setIfInBounds_toArray, List.set_cons_zero, List.set_cons_succ, i64_w, i32_w]
               rfl
              refine pure_ (i := 3) (N := some 57) (v := ?_) (a' := ?_) (bA 8 15) rfl rfl (any_of HT_.out (by kernel_rfl)) (fun _ _ _ h => h) (Or.inl ⟨by rfl, ?_⟩) ?_ ?_
              rotate_left
              ·intro w'
               go_simp
               with_reducible rfl
              rotate_left
              ·simp only [Act.put, List.setIfInBounds_toArray, List.set_cons_zero, List.set_cons_succ, i64_w, i32_w]
               rfl
              refine pure_ (i := 5) (N := some 59) (v := ?_) (a' := ?_) (bA 8 47) rfl rfl (any_of HT_.out (by kernel_rfl)) (fun _ _ _ h => h) (Or.inl ⟨by rfl, ?_⟩) ?_ ?_
              rotate_left
              ·intro w'
               go_simp
               with_reducible rfl
              rotate_left
              ·simp only [Act.put, List.setIfInBounds_toArray, List.set_cons_zero, List.set_cons_succ, i64_w, i32_w]
               rfl
              refine take_ (i := 4) (N := some 58) (v := ?_) (a' := ?_) (bA 8 63) rfl rfl (take_ofW HT_.out HW_.out (by kernel_rfl)) (fun _ _ _ h => h) (Or.inl ⟨by rfl, ?_⟩) hHeld ?_ ?_
              rotate_left
              ·rintro w' ⟨s0, s1, s2, s3, s4, s5⟩
               go_simp
               with_reducible rfl
              rotate_left
              ·simp only [Act.put, List.setIfInBounds_toArray, List.set_cons_zero, List.set_cons_succ, i64_w, i32_w]
               rfl
              refine take_ (i := 6) (N := some 60) (v := ?_) (a' := ?_) (bA 8 127) rfl rfl (take_ofW HT_.out HW_.out (by kernel_rfl)) (fun _ _ _ h => h) (Or.inl ⟨by rfl, ?_⟩) hHeld ?_ ?_
              rotate_left
              ·rintro w' ⟨s0, s1, s2, s3, s4, s5⟩
               go_simp
               with_reducible rfl
              rotate_left
              ·simp only [Act.put, List.setIfInBounds_toArray, List.set_cons_zero, List.set_cons_succ, i64_w, i32_w]
               rfl
              refine pure_ (i := 7) (N := some 61) (v := ?_) (a' := ?_) (bA 8 255) rfl rfl (any_of HT_.out (by kernel_rfl)) (fun _ _ _ h => h) (Or.inl ⟨by rfl, ?_⟩) ?_ ?_
              rotate_left
              ·intro w'
               go_simp
               with_reducible rfl
              rotate_left
              ·simp only [Act.put, List.setIfInBounds_toArray, List.set_cons_zero, List.set_cons_succ, i64_w, i32_w]
               rfl
              refine done_ (done_of HT_.out (by kernel_rfl)) ?_
              try go_wp2
              go_ret
              exact ⟨by first | rfl | (simp [errW_none, errW_some] <;> rfl) | (simp [*, errW_none, errW_some] <;> rfl), by repeat (first | (with_reducible first | exact HB.out | apply below_alloc | apply pw_below_drewN | apply below_drew1 | refine below_set ?_ GE282.out) | exact HB.out)⟩
             ·rw [if_neg c35] at H
              have c35b0 : (((rd_T44 l1 x9_3).f0).toList == ((rd_T44 l1 x7_1).f0).toList) = false := beq_eq_false_iff_ne.mpr c35
              have c35b1 : (((rd_T44 l1 x9_3).f0).toList != ((rd_T44 l1 x7_1).f0).toList) = true := bne_iff_ne.mpr c35
              have H' := Aside0.mk H
              clear H
              try go_wp2
              have n0_ := Aside0.mk (blk_drew BK282.out)
              have n1_ := Aside0.mk (below_drew1 HB.out)
              clear BK282
              clear HB
              have BK282 := n0_
              have HB := n1_
              clear n0_ n1_
              have p288 : 0 ≤ (x9_3 : Int) := of_decide_eq_true (by first | (with_reducible assumption) | assumption)
              have q288 : x9_3 < (l1.length : Int) := of_decide_eq_true (by first | (with_reducible assumption) | assumption)
              obtain ⟨ad288, A288_2, c288_2, e288, hx288_0, hx288_1, hx288_2, hl288_2, hi288_2⟩ := at_T44 HR1.out x9_3 p288 q288
              have hw288_2 := hx288_2
              have hw288_1 := hx288_1
              have hw288_0 := hx288_0
              obtain rfl : ad281 = ad288 := (by injection e288)
              replace hx288_0 := (HB.out.cell (World.block_lt_of_cell? w _ hx288_0)).trans hx288_0
              replace hx288_1 := (HB.out.cell (World.block_lt_of_cell? w _ hx288_1)).trans hx288_1
              replace hx288_2 := (HB.out.cell (World.block_lt_of_cell? w _ hx288_2)).trans hx288_2
              have HR288_2 := Aside0.mk hi288_2
              have HC288_2 := Aside0.mk hl288_2
              clear hi288_2 hl288_2
              replace p288 := eq_true p288
              replace q288 := eq_true q288
              refine start_ (n := 8) (S := fun w' => w'.cell? ⟨gb282, 0, none⟩ = some (.string ((rd_T44 l1 x7_1).f0)) ∧ w'.cell? ⟨gb282, 1, none⟩ = some (.int .i64 ((rd_T44 l1 x7_1).f1)) ∧ w'.cell? ⟨gb282, 2, none⟩ = some (.slice A281_2 ((rd_T44 l1 x7_1).f2).length c281_2) ∧ w'.cell? (ad281.add ((x9_3).toNat * 3)) = some (.string ((rd_T44 l1 x9_3).f0)) ∧ w'.cell? ⟨(ad281.add ((x9_3).toNat * 3)).block, (ad281.add ((x9_3).toNat * 3)).off + 1, none⟩ = some (.int .i64 ((rd_T44 l1 x9_3).f1)) ∧ w'.cell? ⟨(ad281.add ((x9_3).toNat * 3)).block, (ad281.add ((x9_3).toNat * 3)).off + 2, none⟩ = some (.slice A288_2 ((rd_T44 l1 x9_3).f2).length c288_2)) (ds := []) (bA 8 0) (by kernel_rfl) rfl rfl ⟨(blk_cell BK282.out 0).trans rfl, (blk_cell BK282.out 1).trans rfl, (blk_cell BK282.out 2).trans rfl, ((HB.out.cell (World.block_lt_of_cell? w _ hw288_0)).trans hw288_0), ((HB.out.cell (World.block_lt_of_cell? w _ hw288_1)).trans hw288_1), ((HB.out.cell (World.block_lt_of_cell? w _ hw288_2)).trans hw288_2)⟩ (fun hHeld => ?_); refine with_tabW supercargoref12_Right.tab10 supercargoref12_Right.bits10 (fun HT_ HW_ => ?_)
              generalize wr.drew = w37 at BK282 HB HR288_2 hx288_0 hx288_1 hx288_2 hHeld ⊢
              refine pure_ (i := 0) (N := some 54) (v := ?_) (a' := ?_) (bA 8 1) rfl rfl (any_of HT_.out (by kernel_rfl)) (fun _ _ _ h => h) (Or.inl ⟨by rfl, ?_⟩) ?_ ?_
              rotate_left
              ·intro w'
               go_simp
               with_reducible rfl
              rotate_left
              ·simp only [Act.put, List.setIfInBounds_toArray, List.set_cons_zero, List.set_cons_succ, i64_w, i32_w]
               rfl
              refine pure_ (i := 1) (N := some 55) (v := ?_) (a' := ?_) (bA 8 3) rfl rfl (any_of HT_.out (by kernel_rfl)) (fun _ _ _ h => h) (Or.inl ⟨by rfl, ?_⟩) ?_ ?_
              rotate_left
              ·intro w'
               go_simp
               with_reducible rfl
              rotate_left
              ·simp only [Act.put, List.setIfInBounds_toArray, List.set_cons_zero, List.set_cons_succ, i64_w, i32_w]
               rfl
              refine pure_ (i := 2) (N := some 56) (v := ?_) (a' := ?_) (bA 8 7) rfl rfl (any_of HT_.out (by kernel_rfl)) (fun _ _ _ h => h) (Or.inl ⟨by rfl, ?_⟩) ?_ ?_
              rotate_left
              ·intro w'
               go_simp
               with_reducible rfl
              rotate_left
              ·simp only [Act.put, List.setIfInBounds_toArray, List.set_cons_zero, List.set_cons_succ, i64_w, i32_w]
               rfl
              refine pure_ (i := 3) (N := some 57) (v := ?_) (a' := ?_) (bA 8 15) rfl rfl (any_of HT_.out (by kernel_rfl)) (fun _ _ _ h => h) (Or.inl ⟨by rfl, ?_⟩) ?_ ?_
              rotate_left
              ·intro w'
               go_simp
               with_reducible rfl
              rotate_left
              ·simp only [Act.put, List.setIfInBounds_toArray, List.set_cons_zero, List.set_cons_succ, i64_w, i32_w]
               rfl
              refine pure_ (i := 5) (N := some 59) (v := ?_) (a' := ?_) (bA 8 47) rfl rfl (any_of HT_.out (by kernel_rfl)) (fun _ _ _ h => h) (Or.inl ⟨by rfl, ?_⟩) ?_ ?_
              rotate_left
              ·intro w'
               go_simp
               with_reducible rfl
              rotate_left
              ·simp only [Act.put, List.setIfInBounds_toArray, List.set_cons_zero, List.set_cons_succ, i64_w, i32_w]
               rfl
              refine take_ (i := 4) (N := some 58) (v := ?_) (a' := ?_) (bA 8 63) rfl rfl (take_ofW HT_.out HW_.out (by kernel_rfl)) (fun _ _ _ h => h) (Or.inl ⟨by rfl, ?_⟩) hHeld ?_ ?_
              rotate_left
              ·rintro w' ⟨s0, s1, s2, s3, s4, s5⟩
               go_simp
               with_reducible rfl
              rotate_left
              ·simp only [Act.put, List.setIfInBounds_toArray, List.set_cons_zero, List.set_cons_succ, i64_w, i32_w]
               rfl
              refine take_ (i := 6) (N := some 60) (v := ?_) (a' := ?_) (bA 8 127) rfl rfl (take_ofW HT_.out HW_.out (by kernel_rfl)) (fun _ _ _ h => h) (Or.inl ⟨by rfl, ?_⟩) hHeld ?_ ?_
              rotate_left
              ·rintro w' ⟨s0, s1, s2, s3, s4, s5⟩
               go_simp
               with_reducible rfl
              rotate_left
              ·simp only [Act.put, List.setIfInBounds_toArray, List.set_cons_zero, List.set_cons_succ, i64_w, i32_w]
               rfl
              refine pure_ (i := 7) (N := some 61) (v := ?_) (a' := ?_) (bA 8 255) rfl rfl (any_of HT_.out (by kernel_rfl)) (fun _ _ _ h => h) (Or.inl ⟨by rfl, ?_⟩) ?_ ?_
              rotate_left
              ·intro w'
               go_simp
               with_reducible rfl
              rotate_left
              ·simp only [Act.put, List.setIfInBounds_toArray, List.set_cons_zero, List.set_cons_succ, i64_w, i32_w]
               rfl
              refine done_ (done_of HT_.out (by kernel_rfl)) ?_
              try go_wp2
              go_roundg k3
              case measure => have := HK1.out; have := HJ5.out; have := HK3.out; omega
              case rel => exact ⟨(wrap64 (x9_3 + 1)), (by first | rfl | (simp; done) | (simp [*]; done)), H', ⟨by have := HK1.out; have := HJ5.out; have := HK3.out; omega⟩, ⟨by (with_reducible repeat (first | refine blk_drewN ?_ _ | refine blk_drew ?_ | refine blk_alloc ?_ _)); exact BK282.out⟩, ⟨by repeat (first | (with_reducible first | exact HB.out | apply below_alloc | apply pw_below_drewN | apply below_drew1 | refine below_set ?_ GE282.out) | exact HB.out)⟩⟩
            ·rw [if_neg c34] at H
             exact absurd H (by simp)
           ·rw [if_neg c33] at H
            exact absurd H (by simp)
          ·rw [if_neg c32] at H
           have c32b0 : decide (x9_3 < x7_1) = false := decide_eq_false c32
           clear c32
           have H' := Aside0.mk H
           clear H
           go_wp2
           go_roundg k3
           case measure => have := HK1.out; have := HJ5.out; have := HK3.out; omega
           case rel => exact ⟨(wrap64 (x7_1 + 1)), (by first | rfl | (simp; done) | (simp [*]; done)), H', ⟨by have := HK1.out; have := HJ5.out; have := HK3.out; omega⟩, ⟨by repeat (first | (with_reducible first | exact HB.out | apply below_alloc | apply pw_below_drewN | apply below_drew1 | refine below_set ?_ GE282.out) | exact HB.out)⟩⟩
    ·rw [if_neg c5] at H
     exact absurd H (by simp)
   ·rw [if_neg c4] at H
    have c4b0 : decide (x7_1 < (l1.length : Int)) = false := decide_eq_false c4
    clear c4
    replace H := Option.bind_eq_some_iff.mp H
    obtain ⟨t274, A380, H⟩ := H
    replace H : ((supercargoref11_Join.f l2).bind fun t277 => ((supercargoref11_Same.f k1 t274 t277).bind fun t280 => (some t280))) = some r := H
    have A38 := Aside0.mk A380
    clear A380
    replace H := Option.bind_eq_some_iff.mp H
    obtain ⟨t277, A390, H⟩ := H
    replace H : ((supercargoref11_Same.f k1 t274 t277).bind fun t280 => (some t280)) = some r := H
    have A39 := Aside0.mk A390
    clear A390
    replace H := Option.bind_eq_some_iff.mp H
    obtain ⟨t280, A400, H⟩ := H
    replace H : (some t280) = some r := H
    have A40 := Aside0.mk A400
    clear A400
    obtain rfl := Option.some.inj H
    go_wp2_with (first | ((with_reducible refine gate_callee (f := 34) rfl ?_); refine goesL_ (some 63) rfl rfl Tryz.func34 (by kernel_rfl) rfl #[.slice A1 l1.length c1] rfl (by (try simp only [List.map_toArray, List.map_cons, List.map_nil]); first | done | rfl | (simp only [List.length_drop, List.length_take]; rfl)) ?_; (with_reducible refine (supercargoref12_Content.calls k1 _ _ l1 t274 _ ?side1 ?side2 A38.out).mono ?_); (case side1 => repeat (first | exact (Kd.C_below HR1.out HB.out) | (with_reducible refine Kd.C_alloc ?_ _) | (with_reducible refine Kd.C_drewN ?_ _) | (with_reducible refine Kd.C_drew ?_))); (case side2 => exact HC1.out); rintro e w41 ⟨v275, rfl, ho0, hb⟩; refine ⟨_, rfl, ?_⟩; have n0_ := Aside0.mk (Kd.R_lower ho0 (below_size (by repeat (first | (with_reducible first | exact HB.out | apply below_alloc | apply pw_below_drewN | apply below_drew1) | exact HB.out)))); have n1_ := Aside0.mk (below_step (by repeat (first | (with_reducible first | exact HB.out | apply below_alloc | apply pw_below_drewN | apply below_drew1) | exact HB.out)) hb); clear HB; have HO276 := n0_; have HB := n1_; clear n0_ n1_; (try clear hb); (try clear hb2); (try clear hk); (try clear hi); (try clear ho0)) | ((with_reducible refine gate_callee (f := 37) rfl ?_); refine goesL_ (some 65) rfl rfl Tryz.func37 (by kernel_rfl) rfl #[.slice A2 l2.length c2] rfl (by (try simp only [List.map_toArray, List.map_cons, List.map_nil]); first | done | rfl | (simp only [List.length_drop, List.length_take]; rfl)) ?_; (with_reducible refine (supercargoref11_Join.calls _ _ l2 t277 _ ?side1 ?side2 A39.out).mono ?_); (case side1 => repeat (first | exact (Kd.C_below HR2.out HB.out) | (with_reducible refine Kd.C_alloc ?_ _) | (with_reducible refine Kd.C_drewN ?_ _) | (with_reducible refine Kd.C_drew ?_))); (case side2 => exact HC2.out); rintro e w42 ⟨v278, rfl, ho0, hb⟩; refine ⟨_, rfl, ?_⟩; have n0_ := Aside0.mk (Kd.R_elder' (by (with_reducible repeat (first | apply Kd.R_alloc | apply Kd.R_drewN | apply Kd.R_drew)); exact HO276.out) (Kd.R_base ho0) hb); have n1_ := Aside0.mk (Kd.R_lower (Kd.R_new' ho0 (Kd.R_lt (by (with_reducible repeat (first | apply Kd.R_alloc | apply Kd.R_drewN | apply Kd.R_drew)); exact HO276.out))) (below_size (by repeat (first | (with_reducible first | exact HB.out | apply below_alloc | apply pw_below_drewN | apply below_drew1) | exact HB.out)))); have n2_ := Aside0.mk (below_step (by repeat (first | (with_reducible first | exact HB.out | apply below_alloc | apply pw_below_drewN | apply below_drew1) | exact HB.out)) hb); clear HO276; clear HB; have HO276 := n0_; have HO279 := n1_; have HB := n2_; clear n0_ n1_ n2_; (try clear hb); (try clear hb2); (try clear hk); (try clear hi); (try clear ho0); obtain ⟨Ao43, co43, eo43⟩ := Kd.R_slice HO276.out; subst eo43; obtain ⟨Ao44, co44, eo44⟩ := Kd.R_slice HO279.out; subst eo44) | ((with_reducible refine gate_callee (f := 33) rfl ?_); refine goesL_ (some 66) rfl rfl Tryz.func33 (by kernel_rfl) rfl #[.slice Ao43 t274.length co43, .slice Ao44 t277.length co44] rfl (by (try simp only [List.map_toArray, List.map_cons, List.map_nil]); first | done | rfl | (simp only [List.length_drop, List.length_take]; rfl)) ?_; (with_reducible refine (supercargoref11_Same.calls k1 _ _ t274 _ _ t277 t280 _ ?side1 ?side2 ?side3 ?side4 A40.out).mono ?_); (case side1 => repeat (first | exact (Kd.R_reads' HO276.out).2.2 | (with_reducible refine Kd.C_alloc ?_ _) | (with_reducible refine Kd.C_drewN ?_ _) | (with_reducible refine Kd.C_drew ?_))); (case side2 => exact (Kd.R_reads' HO276.out).2.1); (case side3 => repeat (first | exact (Kd.R_reads' HO279.out).2.2 | (with_reducible refine Kd.C_alloc ?_ _) | (with_reducible refine Kd.C_drewN ?_ _) | (with_reducible refine Kd.C_drew ?_))); (case side4 => exact (Kd.R_reads' HO279.out).2.1); rintro e w' ⟨rfl, ⟨nd, rfl⟩⟩; refine ⟨_, rfl, ?_⟩))
    go_ret
    exact ⟨by first | rfl | (simp [errW_none, errW_some] <;> rfl) | (simp [*, errW_none, errW_some] <;> rfl), by repeat (first | (with_reducible first | exact HB.out | apply below_alloc | apply pw_below_drewN | apply below_drew1) | exact HB.out)⟩
end Go.Proofs.YtfflbeenkfaemaaGreatDoor.X
namespace Go.Proofs.YtfflbeenkfaemaaGreatDoor.Ref
open Go.RowKit Go.Proofs.YtfflbeenkfaemaaGreatDoor.Ext Go.Proofs.YtfflbeenkfaemaaGreatDoor.X Go.Proofs.YtfflbeenkfaemaaGreatDoorW.PrintWords
/-- Boxes as the document's checker takes them. -/
structure ShrtB (bs : List X.S44) : Prop where
 len : bs.length ≤ 70
 lots : ∀ b ∈ bs, Shrt b.f2 ∧ b.f2.length ≤ 20 ∧ ∀ x ∈ b.f2, x.f1 ≤ 9223372036854775807
theorem hasM_iff (seen : List ByteArray) (m : ByteArray) : hasM seen m = true ↔ m ∈ seen := by
 unfold hasM
 simp
theorem content_le : ∀ (bs : List X.S44) (_ : ∀ b ∈ bs, b.f2.length ≤ 20), (contentL bs).length ≤ 20 * bs.length
 | [], _ => by simp [contentL]
 | b :: bs, h => by
  have h1 := h b List.mem_cons_self
  have h2 := content_le bs fun y hy => h y (List.mem_cons_of_mem _ hy)
  show (b.f2 ++ contentL bs).length ≤ _
  rw [List.length_append, List.length_cons]
  omega
theorem right_l (gs : List X.S30) (hok : GoodsOk gs) (hg : gs.length ≤ 12) (bs : List X.S44) (hb : ShrtB bs) (l : List X.S55) (hl : l.length ≤ 1000) (hw : ∀ x ∈ l, x.f1 ≤ 9223372036854775807) (d : Nat) : ∀ (k i : Nat), i + d = bs.length → d * 80 + 4000 < k →
  supercargoref12_Right.l0 k gs bs l (i : Int) = some (allOk gs ((bs.take i).map X.S44.f0) (bs.drop i) && decide (joinB (contentL bs) = joinB l)) := by
 have hln := hb.len
 induction d with
 | zero =>
  intro k i hi hk
  obtain ⟨k, rfl⟩ : ∃ m, k = m + 1 := ⟨k - 1, by omega⟩
  have hcl := content_le bs fun b h => (hb.lots b h).2.1
  have hcw : ∀ x ∈ contentL bs, x.f1 ≤ 9223372036854775807 := fun x hx => by
   obtain ⟨b, hb2, hx⟩ := List.mem_flatMap.1 hx
   exact (hb.lots b hb2).2.2 x hx
  have j1 : supercargoref11_Join.f (contentL bs) = some (joinB (contentL bs)) := by unfold supercargoref11_Join.f; rw [if_pos (by omega), rjoinB_eq _ hcw]
  have j2 : supercargoref11_Join.f l = some (joinB l) := by unfold supercargoref11_Join.f; rw [if_pos (by omega), rjoinB_eq _ hw]
  have hjl := joinB_len (contentL bs)
  simp only [supercargoref12_Right.l0]
  rw [if_neg (by omega), refContent_f bs (by omega) (by omega) k (by omega), j1, Option.bind_some, j2, Option.bind_some, same_f _ _ (by omega) k (by omega), Option.bind_some, List.drop_eq_nil_of_le (by omega)]
  rfl
 | succ d ih =>
  intro k i hi hk
  obtain ⟨k, rfl⟩ : ∃ m, k = m + 1 := ⟨k - 1, by omega⟩
  have hlt : i < bs.length := by omega
  obtain ⟨hs, hs2, hs3⟩ := hb.lots bs[i] (List.getElem_mem hlt)
  have hsl := hs.len
  have hdr : bs.drop i = bs[i] :: bs.drop (i + 1) := List.drop_eq_getElem_cons hlt
  have htk : (bs.take i).map X.S44.f0 ++ [bs[i].f0] = (bs.take (i + 1)).map X.S44.f0 := by
   rw [List.take_add_one, List.getElem?_eq_getElem hlt, List.map_append]
   rfl
  have hA : allOk gs ((bs.take i).map X.S44.f0) (bs.drop i) = (okBox gs ((bs.take i).map X.S44.f0) bs[i] && allOk gs ((bs.take (i + 1)).map X.S44.f0) (bs.drop (i + 1))) := by
   rw [hdr]
   show (okBox gs _ bs[i] && allOk gs (_ ++ [bs[i].f0]) _) = _
   rw [htk]
  -- the marks ahead
  have inner : ∀ (e k j : Nat), j + e = i → d * 80 + 4000 + e + 1 < k →
    supercargoref12_Right.l1 k gs bs l (i : Int) (j : Int) bs[i].f0 bs[i].f1 bs[i].f2 = some (if hasM (((bs.take i).drop j).map X.S44.f0) bs[i].f0 = true then false else (allOk gs ((bs.take (i + 1)).map X.S44.f0) (bs.drop (i + 1)) && decide (joinB (contentL bs) = joinB l))) := by
   intro e
   induction e with
   | zero =>
    intro k j hj hk
    obtain ⟨k, rfl⟩ : ∃ m, k = m + 1 := ⟨k - 1, by omega⟩
    simp only [supercargoref12_Right.l1]
    rw [if_neg (by omega), wn hlt (by omega), ih k (i + 1) (by omega) (by omega), List.drop_eq_nil_of_le (show (bs.take i).length ≤ j by rw [List.length_take]; omega)]
    have : hasM ([] : List ByteArray) bs[i].f0 = false := Bool.eq_false_iff.2 fun h => by
     have := (hasM_iff _ _).1 h
     cases this
    rw [List.map_nil, this]
    rfl
   | succ e ih2 =>
    intro k j hj hk
    obtain ⟨k, rfl⟩ : ∃ m, k = m + 1 := ⟨k - 1, by omega⟩
    have hjl : j < bs.length := by omega
    simp only [supercargoref12_Right.l1]
    rw [if_pos (by omega), if_pos (by omega), if_pos (by omega), rd44 bs j hjl]
    have hdr2 : (bs.take i).drop j = bs[j] :: (bs.take i).drop (j + 1) := by
     rw [List.drop_eq_getElem_cons (by rw [List.length_take]; omega), List.getElem_take]
    rw [hdr2, List.map_cons]
    by_cases he : bs[j].f0 = bs[i].f0
    ·rw [if_pos ((bytes_iff _ _).2 he), if_pos ((hasM_iff _ _).2 (by rw [he]; exact List.mem_cons_self))]
    ·rw [if_neg (fun h => he ((bytes_iff _ _).1 h)), wn hjl (by omega), ih2 k (j + 1) (by omega) (by omega)]
     have : hasM (bs[j].f0 :: ((bs.take i).drop (j + 1)).map X.S44.f0) bs[i].f0 = hasM (((bs.take i).drop (j + 1)).map X.S44.f0) bs[i].f0 := by
      rw [Bool.eq_iff_iff, hasM_iff, hasM_iff, List.mem_cons]
      exact ⟨fun h => h.resolve_left fun q => he q.symm, .inr⟩
     rw [this]
  have inner0 : ∀ k, d * 80 + 4000 + i + 1 < k → supercargoref12_Right.l1 k gs bs l (i : Int) 0 bs[i].f0 bs[i].f1 bs[i].f2 = some (!hasM ((bs.take i).map X.S44.f0) bs[i].f0 && (allOk gs ((bs.take (i + 1)).map X.S44.f0) (bs.drop (i + 1)) && decide (joinB (contentL bs) = joinB l))) := fun k hk => by
   have := inner i k 0 (by omega) hk
   rw [List.drop_zero] at this
   refine Eq.trans this ?_
   cases hasM ((bs.take i).map X.S44.f0) bs[i].f0 <;> rfl
  have off : ∀ k, 0 < k → supercargoref12_Right.j1 k gs bs l (i : Int) true bs[i].f0 bs[i].f1 bs[i].f2 = some false := fun k hk => by
   obtain ⟨k, rfl⟩ : ∃ m, k = m + 1 := ⟨k - 1, by omega⟩
   simp only [supercargoref12_Right.j1]
   rw [if_pos trivial]
  have on : ∀ k, d * 80 + 4000 + i + 2 < k → supercargoref12_Right.j1 k gs bs l (i : Int) false bs[i].f0 bs[i].f1 bs[i].f2 = some (!hasM ((bs.take i).map X.S44.f0) bs[i].f0 && (allOk gs ((bs.take (i + 1)).map X.S44.f0) (bs.drop (i + 1)) && decide (joinB (contentL bs) = joinB l))) := fun k hk => by
   obtain ⟨k, rfl⟩ : ∃ m, k = m + 1 := ⟨k - 1, by omega⟩
   simp only [supercargoref12_Right.j1]
   rw [if_neg (by simp)]
   exact inner0 k (by omega)
  have hJ : supercargoref11_Join.f bs[i].f2 = some (joinB bs[i].f2) := by unfold supercargoref11_Join.f; rw [if_pos (by omega), rjoinB_eq _ hs3]
  simp only [supercargoref12_Right.l0]
  rw [if_pos (by omega), if_pos (by omega), rd44 bs i hlt, right_f _ k (by omega), Option.bind_some, hA]
  unfold okBox
  cases hr : rightB bs[i].f0 with
  | false =>
   rw [if_neg (by simp), off k (by omega)]
   rfl
  | true =>
   rw [if_pos rfl]
   by_cases h0 : bs[i].f2.length = 0
   ·rw [if_pos (by omega), off k (by omega), decide_eq_true h0]
    simp
   ·rw [if_neg (by omega), go_f gs hok hg _ _ hs hs3 k (by omega), Option.bind_some, decide_eq_false h0]
    cases hgo : goB gs bs[i].f1 bs[i].f2 with
    | false =>
     rw [if_neg (by simp), off k (by omega)]
     simp
    | true =>
     rw [if_pos rfl, hJ, Option.bind_some]
     by_cases hjn : (joinB bs[i].f2).length = bs[i].f2.length
     ·have : (((joinB bs[i].f2).length : Int) != (bs[i].f2.length : Int)) = false := by rw [hjn]; simp
      rw [this, on k (by omega), decide_eq_true hjn]
      simp [Bool.and_assoc]
     ·have : (((joinB bs[i].f2).length : Int) != (bs[i].f2.length : Int)) = true := by simp; omega
      rw [this, off k (by omega), decide_eq_false hjn]
      simp
theorem refRight_f (gs : List X.S30) (hok : GoodsOk gs) (hg : gs.length ≤ 12) (bs : List X.S44) (hb : ShrtB bs) (l : List X.S55) (hl : l.length ≤ 1000) (hw : ∀ x ∈ l, x.f1 ≤ 9223372036854775807) (k : Nat) (hk : 10000 ≤ k) : supercargoref12_Right.f k gs bs l = some (packedOk gs bs l) := by
 have hln := hb.len
 unfold supercargoref12_Right.f
 rw [show (0 : Int) = ((0 : Nat) : Int) from rfl, right_l gs hok hg bs hb l hl hw bs.length k 0 (by omega) (by omega)]
 rfl
end Go.Proofs.YtfflbeenkfaemaaGreatDoor.Ref
