/- A calendar among the arguments: the struct opened, its rows read. -/
import Derived.Test.YtcmjgkmnbenniaaOpenE
namespace Go.Proofs.Ytcmjgkmnbenniaa.Ext
open Go.ChangeShapes Go.WideShapes Go.ChangeAt Go.RowKit Go.Deep Go.Proofs.YtcmjgkmnbenniaaW.PrintWords
set_option maxRecDepth 100000 in
theorem row_C {H : Type} {enc : TypeId × Value → H} {W : World} {base : Nat} {spare : Nat → Bool} {held : Bool} {fuel : Nat} {cs : List Value} {y : DataW H × List MemPlace}
    (hf : DataW.trod enc Try.prog W base spare held fuel 57 cs = some y) : ∃ (A : Option Addr) (l : List Int) (c : Nat), cs = [.slice A l.length c] ∧ l.length ≤ c ∧ Kd.C (Kd.int .i64) W A l.length l := by
  rcases open_slice Try.underlying57 hf with ⟨rfl, _⟩ | ⟨a, len, cap, m, n, D, Pl, rfl, _, hl, hm, hmm, _, hi⟩
  · exact ⟨none, [], 0, rfl, Nat.le_refl _, Kd.C_nil _ _⟩
  · have hle : len ≤ m := by rw [hmm]; split <;> omega
    have h1 : Try.prog.cellsOf 3 = 1 := cellsI
    have each : ∀ j, j < len → ∃ x : Int, W.cell? (a.add j) = some (.int .i64 x) := by
      intro j hj
      obtain ⟨cs, hc, htr⟩ := hi j (by omega)
      obtain ⟨x, hx, _⟩ := DataW.trod_int Try.underlying3 htr
      obtain ⟨_, hcl, hat⟩ := World.cells?_some hc
      subst hx
      rw [h1] at hat
      have := hat 0 (by omega)
      rw [Go.Addr.add_add, Nat.mul_one, Nat.add_zero] at this
      exact ⟨x, this⟩
    have build : ∀ q, q ≤ len → ∃ l : List Int, l.length = q ∧ ∀ j x, l[j]? = some x → W.cell? (a.add j) = some (.int .i64 x) := by
      intro q
      induction q with
      | zero => exact fun _ => ⟨[], rfl, fun j x hx => by simp at hx⟩
      | succ q ih =>
        intro hq
        obtain ⟨l, hll, hle⟩ := ih (by omega)
        obtain ⟨x, hx⟩ := each q (by omega)
        refine ⟨l ++ [x], by simp [hll], fun j y hy => ?_⟩
        by_cases hj : j < l.length
        · rw [List.getElem?_append_left hj] at hy
          exact hle j y hy
        · have hjq : j = q := by have := (List.getElem?_eq_some_iff.1 hy).1; simp [hll] at this; omega
          subst hjq
          rw [← hll, List.getElem?_concat_length] at hy
          obtain rfl := Option.some.inj hy
          exact hx
    obtain ⟨l, hll, hat⟩ := build len (Nat.le_refl _)
    subst hll
    refine ⟨some a, l, cap, rfl, hl, rfl, by unfold maxLen at hm; omega, fun _ => ⟨a, rfl, fun j p hj => ⟨[.int .i64 p], rfl, rfl, fun i u hu => ?_⟩⟩⟩
    have hi0 : i = 0 := by have := (List.getElem?_eq_some_iff.1 hu).1; simp at this; omega
    subst hi0
    obtain rfl : Value.int .i64 p = u := by simpa using hu
    have e : j * (Kd.int .i64).sz + 0 = j := by show j * 1 + 0 = j; omega
    rw [e]
    exact hat j p hj
set_option maxRecDepth 100000 in
theorem open_cal {H : Type} {enc : TypeId × Value → H} {w : World} {base : Nat} {spare : Nat → Bool} {held : Bool} {r : Reach} {b0 : Nat} {v : Value} {d : DataW H} {p : List MemPlace} (hv : Value.okWide Try.prog w r b0 59 v) (h : DataW.Trod enc Try.prog w base spare held 59 v d p) :
    ∃ (A1 A2 : Option Addr) (l1 l2 : List Int) (c1 c2 : Nat), v = .agg #[.slice A1 l1.length c1, .slice A2 l2.length c2] ∧ l1.length ≤ c1 ∧ l2.length ≤ c2 ∧ Kd.C (Kd.int .i64) w A1 l1.length l1 ∧ Kd.C (Kd.int .i64) w A2 l2.length l2 := by
  obtain ⟨cs, rfl, hsz⟩ := okWide_struct Try.underlying59 hv
  obtain ⟨l⟩ := cs
  obtain ⟨fuel, hf⟩ := h
  obtain ⟨xs, n, _, hx, hlen, hxlen, hg⟩ := DataW.trod_struct Try.underlying59 hf
  have hxl : xs.length = 2 := hxlen
  have hc2 : Try.prog.cellsOf 59 = 2 := by kernel_rfl
  have hcs : Try.prog.cellsOf 57 = 1 := by kernel_rfl
  have f0 := hg 0 _ rfl
  have f1 := hg 1 _ rfl
  rw [List.getElem?_eq_getElem (by omega)] at f0 f1
  match l, hsz.trans hc2 with
  | [e0, e1], _ =>
    obtain ⟨A1, l1, c1, q0, k1, h1⟩ := row_C f0
    obtain ⟨A2, l2, c2, q1, k2, h2⟩ := row_C f1
    have z0 : e0 = .slice A1 l1.length c1 := by have q : ([e0, e1].drop 0).take (Try.prog.cellsOf 57) = [.slice A1 l1.length c1] := q0; simpa [hcs] using q
    have z1 : e1 = .slice A2 l2.length c2 := by have q : ([e0, e1].drop 1).take (Try.prog.cellsOf 57) = [.slice A2 l2.length c2] := q1; simpa [hcs] using q
    exact ⟨A1, A2, l1, l2, c1, c2, by rw [z0, z1], k1, k2, h1, h2⟩
end Go.Proofs.Ytcmjgkmnbenniaa.Ext
