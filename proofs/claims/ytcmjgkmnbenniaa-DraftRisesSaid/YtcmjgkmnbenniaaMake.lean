/- draft.New, State, Holder, Copy. -/
import Derived.Test.YtcmjgkmnbenniaaMethC
import Derived.Test.YtcmjgkmnbenniaaXx2
import Derived.Carry
namespace Go.Proofs.Ytcmjgkmnbenniaa.Ext
open Go.RowKit Go.Maps Go.WideMaps Go.Proofs.YtcmjgkmnbenniaaW.PrintWords Go.Proofs.YtcmjgkmnbenniaaW.PrintLast

theorem State_any (w : World) (lo g m : Nat) (d : Dr) (b : St) (h : IsBill w lo g m d b) :
    Calls Try.prog 20 #[pt0 g] w fun e w' => e = .returned (.int .i64 b.state) ∧ w = w' := by
  have h9 : w.cell? ⟨g, 9, none⟩ = some (.int .i64 b.state) := h.cell 9
  go_enter Try.func20, Try.ntmps20
  go_wp2_with fail
  go_ret
  exact ⟨rfl, rfl⟩
theorem Holder_any (w : World) (lo g m : Nat) (d : Dr) (b : St) (h : IsBill w lo g m d b) :
    Calls Try.prog 16 #[pt0 g] w fun e w' => e = .returned (.string b.holder) ∧ w = w' := by
  have h9 : w.cell? ⟨g, 10, none⟩ = some (.string b.holder) := h.cell 10
  go_enter Try.func16, Try.ntmps16
  go_wp2_with fail
  go_ret
  exact ⟨rfl, rfl⟩
def newSt (d : Dr) : St := ⟨0, d.payee, [], d.frm, false⟩
set_option maxHeartbeats 4000000 in
set_option maxRecDepth 100000 in
theorem New_any (k : Nat) (d : Dr) (w : World) (hm : X.draft_May.f k d.num d.drawer d.drawee d.payee d.cur d.amt d.kind d.days d.frm = some true) :
    Calls Try.prog 11 #[.agg d.arr] w fun e w' => ∃ g m, e = .returned (.tuple #[pt0 g, .int .i64 0]) ∧ IsBill w' w.heap.size g m d (newSt d) ∧ Below w.heap.size w w' := by
  have hmm := @run_makeMap Try.prog
  have hu25 := Try.underlying25
  have hu66 := Try.underlying66
  unfold Dr.arr
  have cM := fun W => X.draft_May.calls k d.num d.drawer d.drawee d.payee d.cur d.amt d.kind d.days d.frm true W hm
  go_enter Try.func11, Try.ntmps11
  go_wp2_with fail
  refine (cM _).mono ?_
  rintro e w1 ⟨rfl, hb1⟩
  have hb0 : Below w.heap.size w (w.alloc (.cells #[.string d.num, .string d.drawer, .string d.drawee, .string d.payee, .string d.cur, .int .i64 d.amt, .int .i64 d.kind, .int .i64 d.days, .int .i64 d.frm] 25)) := below_alloc (Below.refl _ _) _
  have hbox : w1.heap[w.heap.size]? = some (.cells #[.string d.num, .string d.drawer, .string d.drawee, .string d.payee, .string d.cur, .int .i64 d.amt, .int .i64 d.kind, .int .i64 d.days, .int .i64 d.frm] 25 (0, 0)) := blk_below (blk_new w _) hb1
  have hbel1 : Below w.heap.size w w1 := below_up hb0 hb1
  generalize hM : w.heap.size = M at *
  have q0 : w1.cell? ⟨M, 0, none⟩ = some (.string d.num) := (blk_cell hbox 0).trans rfl
  have q1 : w1.cell? ⟨M, 1, none⟩ = some (.string d.drawer) := (blk_cell hbox 1).trans rfl
  have q2 : w1.cell? ⟨M, 2, none⟩ = some (.string d.drawee) := (blk_cell hbox 2).trans rfl
  have q3 : w1.cell? ⟨M, 3, none⟩ = some (.string d.payee) := (blk_cell hbox 3).trans rfl
  have q4 : w1.cell? ⟨M, 4, none⟩ = some (.string d.cur) := (blk_cell hbox 4).trans rfl
  have q5 : w1.cell? ⟨M, 5, none⟩ = some (.int .i64 d.amt) := (blk_cell hbox 5).trans rfl
  have q6 : w1.cell? ⟨M, 6, none⟩ = some (.int .i64 d.kind) := (blk_cell hbox 6).trans rfl
  have q7 : w1.cell? ⟨M, 7, none⟩ = some (.int .i64 d.days) := (blk_cell hbox 7).trans rfl
  have q8 : w1.cell? ⟨M, 8, none⟩ = some (.int .i64 d.frm) := (blk_cell hbox 8).trans rfl
  have r8 : (w1.alloc (.map #[] 0)).cell? ⟨M, 8, none⟩ = some (.int .i64 d.frm) := keepc (below_alloc (Below.refl _ _) _) q8
  go_wp2_with fail
  go_ret2
  have hs1 := hbel1.size
  rw [hM] at hs1 ⊢
  refine ⟨w1.heap.size + 1, w1.heap.size, rfl, ⟨?_, (World.ownsMap_made w1 _ _ _).alloc _, by omega, hs1⟩, ?_⟩
  · have := blk_new (w1.alloc (.map #[] 0)) (.cells (billCells d (newSt d) w1.heap.size) 66)
    simpa [billCells, newSt] using this
  · exact (hbel1.alloc hs1 _).alloc (by simp; omega) _
set_option maxHeartbeats 4000000 in
set_option maxRecDepth 100000 in
/-- A copy, with a set of its own. -/
theorem Copy_any (w : World) (lo g m : Nat) (d : Dr) (b : St) (h : IsBill w lo g m d b) :
    Calls Try.prog 24 #[pt0 g] w fun e w' => ∃ g' m', e = .returned (pt0 g') ∧ IsBill w' w.heap.size g' m' d b ∧ Below w.heap.size w w' := by
  have hu66 := Try.underlying66
  have q0 : w.cell? ⟨g, 0, none⟩ = some (.string d.num) := h.cell 0
  have q1 : w.cell? ⟨g, 1, none⟩ = some (.string d.drawer) := h.cell 1
  have q2 : w.cell? ⟨g, 2, none⟩ = some (.string d.drawee) := h.cell 2
  have q3 : w.cell? ⟨g, 3, none⟩ = some (.string d.payee) := h.cell 3
  have q4 : w.cell? ⟨g, 4, none⟩ = some (.string d.cur) := h.cell 4
  have q5 : w.cell? ⟨g, 5, none⟩ = some (.int .i64 d.amt) := h.cell 5
  have q6 : w.cell? ⟨g, 6, none⟩ = some (.int .i64 d.kind) := h.cell 6
  have q7 : w.cell? ⟨g, 7, none⟩ = some (.int .i64 d.days) := h.cell 7
  have q8 : w.cell? ⟨g, 8, none⟩ = some (.int .i64 d.frm) := h.cell 8
  have q9 : w.cell? ⟨g, 9, none⟩ = some (.int .i64 b.state) := h.cell 9
  have q10 : w.cell? ⟨g, 10, none⟩ = some (.string b.holder) := h.cell 10
  have q11 : w.cell? ⟨g, 11, none⟩ = some (.map (some m)) := h.cell 11
  have q12 : w.cell? ⟨g, 12, none⟩ = some (.int .i64 b.last) := h.cell 12
  have q13 : w.cell? ⟨g, 13, none⟩ = some (.bool b.acc) := h.cell 13
  have hb0 : Below w.heap.size w (w.alloc (.cells #[.string d.num, .string d.drawer, .string d.drawee, .string d.payee, .string d.cur, .int .i64 d.amt, .int .i64 d.kind, .int .i64 d.days, .int .i64 d.frm, .int .i64 b.state, .string b.holder, .map (some m), .int .i64 b.last, .bool b.acc] 66)) := below_alloc (Below.refl _ _) _
  have r11 : (w.alloc (.cells #[.string d.num, .string d.drawer, .string d.drawee, .string d.payee, .string d.cur, .int .i64 d.amt, .int .i64 d.kind, .int .i64 d.days, .int .i64 d.frm, .int .i64 b.state, .string b.holder, .map (some m), .int .i64 b.last, .bool b.acc] 66)).cell? ⟨g, 11, none⟩ = some (.map (some m)) := keepc hb0 q11
  have hbill := h.below hb0
  have cC := Try.maps_Clone 9 (plainElem (H := Unit) Try.prog 4) m b.passed.length (setM b.passed) _ hbill.own
  have hblk : (w.alloc (.cells #[.string d.num, .string d.drawer, .string d.drawee, .string d.payee, .string d.cur, .int .i64 d.amt, .int .i64 d.kind, .int .i64 d.days, .int .i64 d.frm, .int .i64 b.state, .string b.holder, .map (some m), .int .i64 b.last, .bool b.acc] 66)).heap[w.heap.size]? = some (.cells #[.string d.num, .string d.drawer, .string d.drawee, .string d.payee, .string d.cur, .int .i64 d.amt, .int .i64 d.kind, .int .i64 d.days, .int .i64 d.frm, .int .i64 b.state, .string b.holder, .map (some m), .int .i64 b.last, .bool b.acc] 66 (0, 0)) := blk_new w _
  have hsz : w.heap.size < (w.alloc (.cells #[.string d.num, .string d.drawer, .string d.drawee, .string d.payee, .string d.cur, .int .i64 d.amt, .int .i64 d.kind, .int .i64 d.days, .int .i64 d.frm, .int .i64 b.state, .string b.holder, .map (some m), .int .i64 b.last, .bool b.acc] 66)).heap.size := blk_lt hblk
  go_enter Try.func24, Try.ntmps24
  go_wp2_with fail
  generalize (w.alloc (.cells #[.string d.num, .string d.drawer, .string d.drawee, .string d.payee, .string d.cur, .int .i64 d.amt, .int .i64 d.kind, .int .i64 d.days, .int .i64 d.frm, .int .i64 b.state, .string b.holder, .map (some m), .int .i64 b.last, .bool b.acc] 66)) = W1 at hb0 r11 hbill cC hblk hsz ⊢
  refine cC.mono ?_
  rintro e w1 ⟨rfl, hown, hown2, hb1⟩
  have hblk1 := blk_below hblk hb1
  have f11 : w1.frozen? ⟨w.heap.size, 11, none⟩ = false := blk_frozen hblk1 11
  have c11 : w1.cell? ⟨w.heap.size, 11, none⟩ = some (.map (some m)) := blk_cell hblk1 11
  go_wp2_with fail
  go_ret
  refine ⟨w.heap.size, W1.heap.size, rfl, ⟨?_, hown.setCell (by show W1.heap.size ≠ w.heap.size; omega) _, Nat.le_refl _, by omega⟩, Below.setCell (below_up hb0 hb1) (Nat.le_refl _) _⟩
  have := blk_set hblk1 11 (.map (some W1.heap.size))
  simpa [billCells] using this
end Go.Proofs.Ytcmjgkmnbenniaa.Ext
