/- A bill in memory, and the conditions that package draft makes as closures. -/
import Derived.Test.YtcmjgkmnbenniaaGreatDoorMoney
import Derived.Test.YtcmjgkmnbenniaaGreatDoorWKept
import Derived.Maps.OwnSet
import Derived.Laws.EntriesVeiled
namespace Go.Proofs.YtcmjgkmnbenniaaGreatDoor.Ext
open Go.RowKit Go.Proofs.YtcmjgkmnbenniaaGreatDoorW.PrintWords
open Go.Maps (setOf)

structure Dr where
  (num drawer drawee payee cur : ByteArray)
  (amt kind days frm : Int)
def Dr.arr (d : Dr) : Array Value := #[.string d.num, .string d.drawer, .string d.drawee, .string d.payee, .string d.cur, .int .i64 d.amt, .int .i64 d.kind, .int .i64 d.days, .int .i64 d.frm]
structure St where
  (state : Int) (holder : ByteArray) (passed : List ByteArray) (last : Int) (acc : Bool)
def setM {H : Type} (acc : List ByteArray) : DataW H := setOf (.lit (.bool true)) (acc.map fun t => Lit.string t.data.toList)
def billCells (d : Dr) (b : St) (m : Nat) : Array Value := #[.string d.num, .string d.drawer, .string d.drawee, .string d.payee, .string d.cur, .int .i64 d.amt, .int .i64 d.kind, .int .i64 d.days, .int .i64 d.frm, .int .i64 b.state, .string b.holder, .map (some m), .int .i64 b.last, .bool b.acc]
/-- Block g holds a bill, block m the set of those who passed it on; both came behind lo. -/
structure IsBill (w : World) (lo g m : Nat) (d : Dr) (b : St) : Prop where
  blk : w.heap[g]? = some (.cells (billCells d b m) 61 (0, 0))
  own : w.ownsMap Tryz.prog 9 (plainElem (H := Unit) Tryz.prog 4) m b.passed.length (setM b.passed)
  log : lo ≤ g
  lom : lo ≤ m
theorem IsBill.ne {w : World} {lo g m : Nat} {d : Dr} {b : St} (h : IsBill w lo g m d b) : g ≠ m := by
  rintro rfl
  obtain ⟨es, clock, hm, _⟩ := h.own
  rw [h.blk] at hm
  cases hm
theorem IsBill.kept {w w' : World} {lo g m : Nat} {d : Dr} {b : St} {S : Nat → Prop} (h : IsBill w lo g m d b) (hk : Kept w w' S) (hg : ¬ S g) (hm : ¬ S m) : IsBill w' lo g m d b := by
  refine ⟨blk_kept h.blk hk hg, ?_, h.log, h.lom⟩
  obtain ⟨es, clock, hb, F, hs, hD⟩ := h.own
  exact ⟨es, clock, blk_kept hb hk hm, F, hs, hD⟩
theorem IsBill.below {w w' : World} {lo g m : Nat} {d : Dr} {b : St} (h : IsBill w lo g m d b) (hb : Below w.heap.size w w') : IsBill w' lo g m d b :=
  h.kept (Kept.of_below hb (fun _ => False)) (fun h => h) (fun h => h)
theorem IsBill.ltg {w : World} {lo g m : Nat} {d : Dr} {b : St} (h : IsBill w lo g m d b) : g < w.heap.size := blk_lt h.blk
theorem IsBill.ltm {w : World} {lo g m : Nat} {d : Dr} {b : St} (h : IsBill w lo g m d b) : m < w.heap.size := h.own.lt
theorem IsBill.cell {w : World} {lo g m : Nat} {d : Dr} {b : St} (h : IsBill w lo g m d b) (i : Nat) : w.cell? ⟨g, i, none⟩ = (billCells d b m)[i]? := blk_cell h.blk i

/-! ### the conditions -/
/-- Is a number a day? -/
def dayB (n : Int) : Bool := decide (0 ≤ n) && decide (n ≤ 1048576)
theorem isDay_any (n : Int) (w : World) :
    Calls Tryz.prog 25 #[.int .i64 n] w fun e w' => e = .returned (.bool (dayB n)) ∧ w = w' := by
  by_cases h1 : (0 : Int) ≤ n
  · by_cases h2 : n ≤ 1048576
    · have e : Hid (dayB n = true) := by show dayB n = _; simp [dayB, h1, h2]
      go_enter Tryz.func25, Tryz.ntmps25
      go_wp2
      go_ret
      exact ⟨by rw [e.out]; rfl, rfl⟩
    · have e : Hid (dayB n = false) := by show dayB n = _; simp [dayB, h2]
      go_enter Tryz.func25, Tryz.ntmps25
      go_wp2
      go_ret
      exact ⟨by rw [e.out]; rfl, rfl⟩
  · have e : Hid (dayB n = false) := by show dayB n = _; simp [dayB, h1]
    go_enter Tryz.func25, Tryz.ntmps25
    go_wp2
    go_ret
    exact ⟨by rw [e.out]; rfl, rfl⟩
/-- A pointer to the head of block k. -/
abbrev pt0 (k : Nat) : Value := .pointer (some ⟨k, 0, none⟩)
theorem is_cond (i j : Nat) (x y : ByteArray) (w : World) (hi : w.cell? ⟨i, 0, none⟩ = some (.string x)) (hj : w.cell? ⟨j, 0, none⟩ = some (.string y)) :
    Calls Tryz.prog 62 #[pt0 i, pt0 j] w fun e w' => e = .returned (.bool (x.toList == y.toList)) ∧ w = w' := by
  go_enter Tryz.func62, Tryz.ntmps62
  go_wp2
  go_ret
  exact ⟨rfl, rfl⟩
theorem open1_cond (i j : Nat) (x : ByteArray) (n : Int) (hx : x.size ≤ 9223372036854775807) (w : World) (hi : w.cell? ⟨i, 0, none⟩ = some (.string x)) (hj : w.cell? ⟨j, 0, none⟩ = some (.int .i64 n)) :
    Calls Tryz.prog 58 #[pt0 i, pt0 j] w fun e w' => e = .returned (.bool (nameB x && dayB n)) ∧ w = w' := by
  obtain ⟨b, hb⟩ : ∃ b, nameB x = b := ⟨_, rfl⟩
  have hn := Name_any x hx
  rw [hb] at hn ⊢
  cases b
  · go_enter Tryz.func58, Tryz.ntmps58
    go_wp2_with fail
    refine (hn _).mono ?_
    rintro e w' ⟨rfl, rfl⟩
    go_wp2_with fail
    go_ret
    exact ⟨rfl, rfl⟩
  · go_enter Tryz.func58, Tryz.ntmps58
    go_wp2_with fail
    refine (hn _).mono ?_
    rintro e w' ⟨rfl, rfl⟩
    go_wp2_with fail
    refine (isDay_any n _).mono ?_
    rintro e w' ⟨rfl, rfl⟩
    go_wp2_with fail
    go_ret
    exact ⟨rfl, rfl⟩
theorem open2_cond (i j : Nat) (n : Int) (w : World) (lo g m : Nat) (d : Dr) (b : St) (hi : w.cell? ⟨i, 0, none⟩ = some (.int .i64 n)) (hj : w.cell? ⟨j, 0, none⟩ = some (pt0 g)) (h : IsBill w lo g m d b) :
    Calls Tryz.prog 59 #[pt0 i, pt0 j] w fun e w' => e = .returned (.bool (decide (b.last ≤ n))) ∧ Below w.heap.size w w' := by
  have h12 : w.cell? ⟨g, 12, none⟩ = some (.int .i64 b.last) := h.cell 12
  go_enter Tryz.func59, Tryz.ntmps59
  go_wp2
  go_quiet (fail)
  go_wp2
  go_ret
  exact ⟨rfl, pw_below_drewN (Below.refl _ _) _⟩
theorem sight_cond (i : Nat) (w : World) (lo g m : Nat) (d : Dr) (b : St) (hi : w.cell? ⟨i, 0, none⟩ = some (pt0 g)) (h : IsBill w lo g m d b) :
    Calls Tryz.prog 34 #[pt0 i] w fun e w' => e = .returned (.bool (d.kind != 0)) ∧ w = w' := by
  have h6 : w.cell? ⟨g, 6, none⟩ = some (.int .i64 d.kind) := h.cell 6
  go_enter Tryz.func34, Tryz.ntmps34
  go_wp2
  go_ret
  exact ⟨rfl, rfl⟩
theorem in_cond (i j : Nat) (b0 n : Nat) (zs : List Int) (w : World) (lo g m : Nat) (d : Dr) (b : St) (hi : w.cell? ⟨i, 0, none⟩ = some (.slice (some ⟨b0, 0, none⟩) zs.length n)) (hz : zs.length ≤ 9) (hc : ∀ k, k < zs.length → w.cell? ⟨b0, k, none⟩ = some (.int .i64 (zs.getD k 0)))
    (hj : w.cell? ⟨j, 0, none⟩ = some (pt0 g)) (h : IsBill w lo g m d b) :
    Calls Tryz.prog 60 #[pt0 i, pt0 j] w fun e w' => e = .returned (.bool (zs.contains b.state)) ∧ Below w.heap.size w w' := by
  have h9 : w.cell? ⟨g, 9, none⟩ = some (.int .i64 b.state) := h.cell 9
  have hcon := fun W (hW : W.heap = w.heap) => Tryz.slices_Contains_int b0 0 zs.length n zs b.state W (Nat.le_refl _) (by omega) (fun k hk => by simpa [World.cell?, hW] using hc k hk)
  go_enter Tryz.func60, Tryz.ntmps60
  go_wp2
  go_quiet (first | (go_at_call 61; exact Calls.quiet_of_same (hcon _ (by rfl))))
  go_wp2
  go_ret
  exact ⟨by simp, pw_below_drewN (Below.refl _ _) _⟩
end Go.Proofs.YtcmjgkmnbenniaaGreatDoor.Ext
