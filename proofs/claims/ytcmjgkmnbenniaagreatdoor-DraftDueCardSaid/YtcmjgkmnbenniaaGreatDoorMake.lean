/- draft.New, State, Holder, Copy. -/
import Derived.Test.YtcmjgkmnbenniaaGreatDoorXx2
import Derived.Test.YtcmjgkmnbenniaaGreatDoorMethC
import Derived.Carry
namespace Go.Proofs.YtcmjgkmnbenniaaGreatDoor.Ext
open Go.RowKit Go.Maps Go.WideMaps Go.Proofs.YtcmjgkmnbenniaaGreatDoorW.PrintWords Go.Proofs.YtcmjgkmnbenniaaGreatDoorW.PrintLast

theorem Holder_any (w : World) (lo g m : Nat) (d : Dr) (b : St) (h : IsBill w lo g m d b) :
    Calls Tryz.prog 19 #[pt0 g] w fun e w' => e = .returned (.string b.holder) ∧ w = w' := by
  have h9 : w.cell? ⟨g, 10, none⟩ = some (.string b.holder) := h.cell 10
  go_enter Tryz.func19, Tryz.ntmps19
  go_wp2_with fail
  go_ret
  exact ⟨rfl, rfl⟩
def newSt (d : Dr) : St := ⟨0, d.payee, [], d.frm, false⟩
set_option maxHeartbeats 4000000 in
set_option maxRecDepth 100000 in
theorem New_any (k : Nat) (d : Dr) (w : World) (hm : X.draft_May.f k d.num d.drawer d.drawee d.payee d.cur d.amt d.kind d.days d.frm = some true) :
    Calls Tryz.prog 14 #[.agg d.arr] w fun e w' => ∃ g m, e = .returned (.tuple #[pt0 g, .int .i64 0]) ∧ IsBill w' w.heap.size g m d (newSt d) ∧ Below w.heap.size w w' := by
  have hmm := @run_makeMap Tryz.prog
  have hu25 := Tryz.underlying28
  have hu66 := Tryz.underlying61
  unfold Dr.arr
  have cM := fun W => X.draft_May.calls k d.num d.drawer d.drawee d.payee d.cur d.amt d.kind d.days d.frm true W hm
  go_enter Tryz.func14, Tryz.ntmps14
  go_wp2_with fail
  refine (cM _).mono ?_
  rintro e w1 ⟨rfl, hb1⟩
  have hb0 : Below w.heap.size w (w.alloc (.cells #[.string d.num, .string d.drawer, .string d.drawee, .string d.payee, .string d.cur, .int .i64 d.amt, .int .i64 d.kind, .int .i64 d.days, .int .i64 d.frm] 28)) := below_alloc (Below.refl _ _) _
  have hbox : w1.heap[w.heap.size]? = some (.cells #[.string d.num, .string d.drawer, .string d.drawee, .string d.payee, .string d.cur, .int .i64 d.amt, .int .i64 d.kind, .int .i64 d.days, .int .i64 d.frm] 28 (0, 0)) := blk_below (blk_new w _) hb1
  have hbel1 : Below w.heap.size w w1 := below_up hb0 hb1
  generalize hM : w.heap.size = M at *
  have q0 : w1.cell? ⟨M, 0, none⟩ = some (.string d.num) := (blk_cell hbox 0).trans rfl
  have q1 : w1.cell? ⟨M, 1, none⟩ = some (.string d.drawer) := (blk_cell hbox 1).trans rfl
  have q2 : w1.cell? ⟨M, 2, none⟩ = some (.string d.drawee) := (blk_cell hbox 2).trans rfl
  have q3 : w1.cell? ⟨M, 3, none⟩ = some (.string d.payee) := (blk_cell hbox 3).trans rfl
  have q4 : w1.cell? ⟨M, 4, none⟩ = some (.string d.cur) := (blk_cell hbox 4).trans rfl
  have q5 : w1.cell? ⟨M, 5, none⟩ = some (.int .i64 d.amt) := (blk_cell hbox 5).trans rfl
  have q6 : w1.cell? ⟨M, 6, none⟩ = some (.int .i64 d.kind) := (blk_cell hbox 6).trans rfl
  have q7 : w1.cell? ⟨M, 7, none⟩ = some (.int .i64 d.days) := (blk_cell hbox 7).trans rfl
  have q8 : w1.cell? ⟨M, 8, none⟩ = some (.int .i64 d.frm) := (blk_cell hbox 8).trans rfl
  have r8 : (w1.alloc (.map #[] 0)).cell? ⟨M, 8, none⟩ = some (.int .i64 d.frm) := keepc (below_alloc (Below.refl _ _) _) q8
  go_wp2_with fail
  go_ret2
  have hs1 := hbel1.size
  rw [hM] at hs1 ⊢
  refine ⟨w1.heap.size + 1, w1.heap.size, rfl, ⟨?_, (World.ownsMap_made w1 _ _ _).alloc _, by omega, hs1⟩, ?_⟩
  · have := blk_new (w1.alloc (.map #[] 0)) (.cells (billCells d (newSt d) w1.heap.size) 61)
    simpa [billCells, newSt] using this
  · exact (hbel1.alloc hs1 _).alloc (by simp; omega) _
end Go.Proofs.YtcmjgkmnbenniaaGreatDoor.Ext
