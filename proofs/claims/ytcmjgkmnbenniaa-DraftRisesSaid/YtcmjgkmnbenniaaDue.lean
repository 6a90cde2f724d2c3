/- When a draft is due: day.Next, draft.Due. Written by wip/rises.py. -/
import Derived.Test.YtcmjgkmnbenniaaCal
import Derived.Test.YtcmjgkmnbenniaaOnce
namespace Go.Proofs.Ytcmjgkmnbenniaa.Ext
open Go.RowKit Go.Maps Go.WideMaps Go.Proofs.YtcmjgkmnbenniaaW.PrintWords Go.Proofs.YtcmjgkmnbenniaaW.PrintLast
set_option maxHeartbeats 4000000 in
set_option maxRecDepth 100000 in
theorem Next_any (A1 A2 B1 B2 : Option Addr) (c1 c2 d1 d2 : Nat) (l1 l2 : List Int) (C : Cal) (day : Int) (w0 w : World) (h : Owned w0 l1 l2 A1 A2 c1 c2 C B1 B2 d1 d2) (hw : Below w0.heap.size w0 w) :
    Calls Try.prog 45 #[.agg #[.slice A1 l1.length c1, .slice A2 l2.length c2], .int .i64 day] w (AlongPost C day w) := by
  have hu := Try.underlying59
  have hB : Below w.heap.size w (w.alloc (.cells #[.slice A1 l1.length c1, .slice A2 l2.length c2] 59)) := below_alloc (Below.refl _ _) _
  have cA := along_any A1 A2 B1 B2 c1 c2 d1 d2 l1 l2 C day (w.alloc (.cells #[.slice A1 l1.length c1, .slice A2 l2.length c2] 59)) (h.later (below_up hw hB))
  go_enter Try.func45, Try.ntmps45
  go_wp2_with fail
  refine cA.mono ?_
  rintro e w' ⟨n, ok, rfl, hN, hB2⟩
  go_wp2_with fail
  go_ret2
  exact ⟨n, ok, rfl, hN, below_up hB hB2⟩
theorem may_days {d : Dr} (h : mayB d = true) : 0 ≤ d.days ∧ d.days ≤ 1000 := by
  unfold mayB at h
  simp only [Bool.and_eq_true, decide_eq_true_eq, Bool.not_eq_true', beq_eq_false_iff_ne] at h
  obtain ⟨_, _, _, _, _, _, _, _, _, _, _, h9⟩ := h
  unfold termB at h9
  by_cases k0 : d.kind = 0
  · rw [if_pos k0] at h9; have := of_decide_eq_true h9; omega
  · by_cases k1 : d.kind = 1
    · rw [if_neg k0, if_pos k1] at h9; simp only [Bool.and_eq_true, decide_eq_true_eq] at h9; omega
    · by_cases k2 : d.kind = 2
      · rw [if_neg k0, if_neg k1, if_pos k2] at h9; simp only [Bool.and_eq_true, decide_eq_true_eq] at h9; omega
      · rw [if_neg k0, if_neg k1, if_neg k2] at h9; cases h9
def DueIs (C : Cal) (d : Dr) (n : Int) (ok : Bool) : Prop := (mayB d = false ∧ n = 0 ∧ ok = false) ∨ (mayB d = true ∧ NextIs C.rests (d.frm + d.days) n ok)
def DuePost (C : Cal) (d : Dr) (w : World) (e : Ending) (w' : World) : Prop := ∃ n ok, e = .returned (.tuple #[.int .i64 n, .bool ok]) ∧ DueIs C d n ok ∧ Below w.heap.size w w'
set_option maxHeartbeats 8000000 in
set_option maxRecDepth 100000 in
theorem Due_any (A1 A2 B1 B2 : Option Addr) (c1 c2 d1 d2 : Nat) (l1 l2 : List Int) (C : Cal) (d : Dr) (hS : Short d) (w0 w : World) (h : Owned w0 l1 l2 A1 A2 c1 c2 C B1 B2 d1 d2) (hw : Below w0.heap.size w0 w) :
    Calls Try.prog 27 #[.agg #[.slice A1 l1.length c1, .slice A2 l2.length c2], .agg d.arr] w (DuePost C d w) := by
  have hu25 := Try.underlying25
  have hu59 := Try.underlying59
  unfold Dr.arr
  obtain ⟨WB, hWB⟩ : ∃ WB, WB = (w.alloc (.cells #[.slice A1 l1.length c1, .slice A2 l2.length c2] 59)).alloc (.cells #[.string d.num, .string d.drawer, .string d.drawee, .string d.payee, .string d.cur, .int .i64 d.amt, .int .i64 d.kind, .int .i64 d.days, .int .i64 d.frm] 25) := ⟨_, rfl⟩
  have hBB : Below w.heap.size w WB := by rw [hWB]; exact (below_alloc (Below.refl _ _) _).alloc (by simp) _
  have b1 : WB.heap[w.heap.size]? = some (.cells #[.slice A1 l1.length c1, .slice A2 l2.length c2] 59 (0, 0)) := by rw [hWB]; exact blk_below (blk_new w _) (below_alloc (Below.refl _ _) _)
  have b2 : WB.heap[w.heap.size + 1]? = some (.cells #[.string d.num, .string d.drawer, .string d.drawee, .string d.payee, .string d.cur, .int .i64 d.amt, .int .i64 d.kind, .int .i64 d.days, .int .i64 d.frm] 25 (0, 0)) := by rw [hWB]; simpa using blk_new (w.alloc (.cells #[.slice A1 l1.length c1, .slice A2 l2.length c2] 59)) (.cells #[.string d.num, .string d.drawer, .string d.drawee, .string d.payee, .string d.cur, .int .i64 d.amt, .int .i64 d.kind, .int .i64 d.days, .int .i64 d.frm] 25)
  obtain ⟨rm, hrm⟩ : ∃ rm, mayB d = rm := ⟨_, rfl⟩
  have cM := X.draft_May.calls 2 d.num d.drawer d.drawee d.payee d.cur d.amt d.kind d.days d.frm rm WB (by rw [mayd_f d hS 2 (by omega), hrm])
  rw [hWB] at cM
  cases rm with
  | false =>
    have hD : DueIs C d 0 false := .inl ⟨hrm, rfl, rfl⟩
    clear hrm
    go_enter Try.func27, Try.ntmps27
    go_wp2_with fail
    refine cM.mono ?_
    rw [← hWB]
    rintro e w1 ⟨rfl, hB1⟩
    go_wp2_with fail
    go_ret2
    exact ⟨0, false, rfl, hD, below_up hBB hB1⟩
  | true =>
    have hfd := may_days hrm
    obtain ⟨_, _, _, _, _, f6, f7, _⟩ := may_facts hrm
    have hD : ∀ n ok, NextIs C.rests (d.frm + d.days) n ok → DueIs C d n ok := fun n ok hN => .inr ⟨hrm, hN⟩
    have hH := Aside0.mk hD
    have hwr : wrap64 (d.frm + d.days) = d.frm + d.days := w64 (by omega) (by omega)
    clear hrm hD
    go_enter Try.func27, Try.ntmps27
    go_wp2_with fail
    refine cM.mono ?_
    rw [← hWB]
    rintro e w1 ⟨rfl, hB1⟩
    replace b1 := blk_below b1 hB1
    replace b2 := blk_below b2 hB1
    have a0 : w1.cell? ⟨w.heap.size, 0, none⟩ = some (.slice A1 l1.length c1) := (blk_cell b1 0).trans rfl
    have a1 : w1.cell? ⟨w.heap.size, 1, none⟩ = some (.slice A2 l2.length c2) := (blk_cell b1 1).trans rfl
    have q7 : w1.cell? ⟨w.heap.size + 1, 7, none⟩ = some (.int .i64 d.days) := (blk_cell b2 7).trans rfl
    have q8 : w1.cell? ⟨w.heap.size + 1, 8, none⟩ = some (.int .i64 d.frm) := (blk_cell b2 8).trans rfl
    have hBw := below_up hBB hB1
    have cN := Next_any A1 A2 B1 B2 c1 c2 d1 d2 l1 l2 C (d.frm + d.days) w0 w1 h (below_up hw hBw)
    clear cM hWB hBB hB1 b1 b2
    go_wp2_with fail
    refine cN.mono ?_
    rintro e w2 ⟨n, ok, rfl, hN, hB2⟩
    go_wp2_with fail
    go_ret2
    exact ⟨n, ok, rfl, hH.out n ok hN, below_up hBw hB2⟩
end Go.Proofs.Ytcmjgkmnbenniaa.Ext
