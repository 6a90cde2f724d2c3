/- Contracts in the form in which the printed functions take them: day.along, the law's awake. -/
import Derived.Test.YtcmjgkmnbenniaaGreatDoorCal
import Derived.Test.YtcmjgkmnbenniaaGreatDoorExtY
namespace Go.Proofs.YtcmjgkmnbenniaaGreatDoor.Ext
open Go.RowKit Go.Maps Go.WideMaps Go.Proofs.YtcmjgkmnbenniaaGreatDoorW.PrintWords Go.Proofs.YtcmjgkmnbenniaaGreatDoorW.PrintLast
theorem next_one {R : Int → Bool} {s n m : Int} {p q : Bool} (h : NextIs R s n p) (h' : NextIs R s m q) : n = m ∧ p = q := by
  rcases h with ⟨rfl, h1, h2, h3, h4, h5, h6⟩ | ⟨rfl, rfl, h1⟩
  · rcases h' with ⟨rfl, g1, g2, g3, g4, g5, g6⟩ | ⟨rfl, rfl, g1⟩
    · refine ⟨?_, rfl⟩
      rcases Int.lt_trichotomy n m with e | e | e
      · have := g5 n h1 e; rw [h4] at this; cases this
      · exact e
      · have := h5 m g1 e; rw [g4] at this; cases this
    · rcases g1 with g1 | g1
      · omega
      · have := g1 n h1 h3; rw [h4] at this; cases this
  · rcases h' with ⟨rfl, g1, g2, g3, g4, g5, g6⟩ | ⟨rfl, rfl, g1⟩
    · rcases h1 with h1 | h1
      · omega
      · have := h1 m g1 g3; rw [g4] at this; cases this
    · exact ⟨rfl, rfl⟩
open Classical in
/-- The first day that is worked on. -/
noncomputable def nextP (R : Int → Bool) (s : Int) : Int × Bool := if h : ∃ n, NextIs R s n true then (Classical.choose h, true) else (0, false)
theorem nextP_eq {R : Int → Bool} {s n : Int} {ok : Bool} (h : NextIs R s n ok) : nextP R s = (n, ok) := by
  unfold nextP
  by_cases hx : ∃ n, NextIs R s n true
  · rw [dif_pos hx]
    obtain ⟨e1, e2⟩ := next_one (Classical.choose_spec hx) h
    rw [← e1, ← e2]
  · rw [dif_neg hx]
    cases ok with
    | true => exact absurd ⟨n, h⟩ hx
    | false =>
      rcases h with ⟨e, _⟩ | ⟨_, rfl, _⟩
      · cases e
      · rfl
open Classical in
noncomputable def day_along.f (l0_0 l0_1 : List Int) (a1 a2 a3 : Int) : Option (Int × Bool) := if l0_0.length ≤ 5000 ∧ l0_1.length ≤ 5000 ∧ a2 = 1 ∧ a3 = 1 then some (nextP (calOf l0_0 l0_1).rests a1) else none
theorem day_along.calls (A0_0 : Option Addr) (c0_0 : Nat) (l0_0 : List Int) (A0_1 : Option Addr) (c0_1 : Nat) (l0_1 : List Int) (a1 a2 a3 : Int) (r1 : Int) (r2 : Bool) (w : World) (hr0_0 : Kd.C (Kd.int .i64) w A0_0 l0_0.length l0_0) (hc0_0 : l0_0.length ≤ c0_0) (hr0_1 : Kd.C (Kd.int .i64) w A0_1 l0_1.length l0_1) (hc0_1 : l0_1.length ≤ c0_1) (h : day_along.f l0_0 l0_1 a1 a2 a3 = some (r1, r2)) :
    Calls Tryz.prog 41 #[.agg #[.slice A0_0 l0_0.length c0_0, .slice A0_1 l0_1.length c0_1], .int .i64 a1, .int .i64 a2, .int .i64 a3] w fun e w' => e = .returned (.tuple #[.int .i64 r1, .bool r2]) ∧ Below w.heap.size w w' := by
  unfold day_along.f at h
  by_cases hc : l0_0.length ≤ 5000 ∧ l0_1.length ≤ 5000 ∧ a2 = 1 ∧ a3 = 1
  · rw [if_pos hc] at h
    obtain ⟨h1, h2, rfl, rfl⟩ := hc
    obtain ⟨C, B1, B2, d1, d2, rfl, HO⟩ := own_cal A0_0 A0_1 c0_0 c0_1 l0_0 l0_1 w hr0_0 hr0_1 hc0_0 hc0_1 h1 h2
    refine (along_any A0_0 A0_1 B1 B2 c0_0 c0_1 d1 d2 l0_0 l0_1 _ a1 w HO).mono ?_
    rintro e w' ⟨n, ok, rfl, hN, hB⟩
    rw [nextP_eq hN] at h
    cases h
    exact ⟨rfl, hB⟩
  · rw [if_neg hc] at h
    cases h
def supercargolaw38_awake.f : Option Bool := some true
theorem supercargolaw38_awake.calls (r : Bool) (w : World) (h : supercargolaw38_awake.f = some r) :
    Calls Tryz.prog 4 #[] w fun e w' => e = .returned (.bool r) ∧ Below w.heap.size w w' := by
  cases h
  exact awake_any w
end Go.Proofs.YtcmjgkmnbenniaaGreatDoor.Ext
