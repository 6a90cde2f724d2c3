/- (*draft.Bill).Pay. Written by wip/pay.py. -/
import Derived.Test.YtcmjgkmnbenniaaGreatDoorMake
namespace Go.Proofs.YtcmjgkmnbenniaaGreatDoor.Ext
open Go.RowKit Go.Maps Go.WideMaps Go.Proofs.YtcmjgkmnbenniaaGreatDoorW.PrintWords Go.Proofs.YtcmjgkmnbenniaaGreatDoorW.PrintLast

theorem skip_ {P : Program} {ops : Array Oper} {Q : Exit → Act → World → Prop} {oi : Oper} {a : Act} {w w1 : World} {K : Act → World → Prop} (hw : Region.wanted oi (yielded ops a.tmps) = true) (hN : oi.dst = none)
    (hrun : (execOp a.eval oi).run P w = .ok .skip w1) (h : K a w1) : if Region.wanted oi (yielded ops a.tmps) = true then Oper.wp P oi a w K Q else K (a.put none undef) w := by
  rw [if_pos hw]
  unfold Oper.wp
  rw [hrun, Oper.upon_skip, hN]
  exact h
def liabB (d : Dr) (b : St) : List ByteArray := (liabL d b).map fun l => ⟨l.toArray⟩
theorem liabB_enc (d : Dr) (b : St) : (liabL d b).map Go.Proofs.encStr = (liabB d b).map Value.string := by
  simp [liabB, Go.Proofs.encStr]
theorem set_far {W : World} {p a : Addr} {v : Value} (hne : a.block ≠ p.block) (u : Value) (h : W.cell? a = some v) : (W.setCell p u).cell? a = some v := by
  rw [← h]
  exact World.cell?_of_block (Below.heap_setCell W p u a.block hne)
theorem is_new (x y : ByteArray) (w : World) :
    Calls Tryz.prog 37 #[.string x, .string y] w fun e w' => ∃ i j, e = .returned (.agg #[.int .i64 8, .func (.func 62) #[] #[pt0 i, pt0 j]]) ∧ w'.cell? ⟨i, 0, none⟩ = some (.string x) ∧ w'.cell? ⟨j, 0, none⟩ = some (.string y) ∧ Below w.heap.size w w' ∧ w.heap.size ≤ i ∧ w.heap.size ≤ j := by
  go_enter Tryz.func37, Tryz.ntmps37
  go_wp2_with fail
  refine bodyPost_ret (results_cell_row rfl _ _ (w.heap.size + 1 + 1) 63 #[.int .i64 8, .func (.func 62) #[] #[pt0 w.heap.size, pt0 (w.heap.size + 1)]] (0, 0) _ rfl (by simpa using blk_new ((w.alloc (.cells #[.string x] 9)).alloc (.cells #[.string y] 9)) _) Tryz.underlying63 rfl (by kernel_rfl)) rfl ?_
  exact ⟨_, _, rfl, by simp [go_sem], by simp [go_sem], by with_reducible repeat (first | apply below_alloc | exact Below.refl _ _), Nat.le_refl _, Nat.le_succ _⟩
def payCode (x : ByteArray) (day : Int) (d : Dr) (b : St) : Int := chain [(1, nameB x && dayB day), (6, decide (b.last ≤ day)), (9, [(0 : Int), 1, 3].contains b.state), (9, b.state != 0 || d.kind == 0), (8, if b.state = 3 then Lib.containsS (liabB d b) x else x.toList == d.drawee.toList)]
def paySt (c day : Int) (b : St) : St := if c = 0 then { b with state := 2, last := day } else b
end Go.Proofs.YtcmjgkmnbenniaaGreatDoor.Ext
