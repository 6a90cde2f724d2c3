/- Slices among the arguments, as the walks read them: of any elements; of deeds. -/
import Derived.Test.YtcmjgkmnbenniaaOpenD
import Derived.Test.YtcmjgkmnbenniaaXx0
import Derived.Deep.Slices
namespace Go.Proofs.Ytcmjgkmnbenniaa.Ext
open Go.ChangeShapes Go.WideShapes Go.ChangeAt Go.RowKit Go.Deep Go.Proofs.YtcmjgkmnbenniaaW.PrintWords
set_option maxRecDepth 100000 in
theorem slice_C {H : Type} {enc : TypeId × Value → H} {W : World} {base : Nat} {spare : Nat → Bool} {held : Bool} {r : Reach} {b0 : Nat} {v : Value} {d : DataW H} {p : List MemPlace} {t e : TypeId} {α : Type} (k : Kd α)
    (ht : Try.prog.underlying t = some (.slice e)) (hsz : Try.prog.cellsOf e = k.sz) (hel : ∀ n cs y, DataW.trod enc Try.prog W base spare held n e cs = some y → ∃ x, k.K W x cs)
    (hv : Value.okWide Try.prog W r b0 t v) (h : DataW.Trod enc Try.prog W base spare held t v d p) :
    ∃ (A : Option Addr) (l : List α) (c : Nat), v = .slice A l.length c ∧ l.length ≤ c ∧ Kd.C k W A l.length l := by
  obtain ⟨a0, len, cap, rfl⟩ := okWide_slice ht hv
  obtain ⟨fuel, hf⟩ := h
  rcases open_slice ht hf with ⟨hcs, _⟩ | ⟨a, len', cap', m, n, D, Pl, hcs, _, hl, hm, hmm, _, hi⟩
  · simp [Value.cells] at hcs
    obtain ⟨rfl, rfl, rfl⟩ := hcs
    exact ⟨none, [], 0, rfl, Nat.le_refl _, Kd.C_nil _ _⟩
  · simp [Value.cells] at hcs
    obtain ⟨rfl, rfl, rfl⟩ := hcs
    have hle : len ≤ m := by rw [hmm]; split <;> omega
    have each : ∀ j, j < len → ∃ x c, c.length = k.sz ∧ k.K W x c ∧ ∀ i u, c[i]? = some u → W.cell? (a.add (j * k.sz + i)) = some u := by
      intro j hj
      obtain ⟨cs, hc, htr⟩ := hi j (by omega)
      obtain ⟨x, hx⟩ := hel _ _ _ htr
      obtain ⟨_, hcl, hat⟩ := World.cells?_some hc
      rw [hsz] at hcl hat
      refine ⟨x, cs, hcl, hx, fun i u hu => ?_⟩
      have hil : i < k.sz := by have := (List.getElem?_eq_some_iff.1 hu).1; omega
      have := hat i hil
      rw [hu] at this
      rw [← this, Go.Addr.add_add]
    have build : ∀ q, q ≤ len → ∃ l : List α, l.length = q ∧ ∀ j x, l[j]? = some x → ∃ c, c.length = k.sz ∧ k.K W x c ∧ ∀ i u, c[i]? = some u → W.cell? (a.add (j * k.sz + i)) = some u := by
      intro q
      induction q with
      | zero => exact fun _ => ⟨[], rfl, fun j x hx => by simp at hx⟩
      | succ q ih =>
        intro hq
        obtain ⟨l, hll, hle⟩ := ih (by omega)
        obtain ⟨x, hx⟩ := each q (by omega)
        refine ⟨l ++ [x], by simp [hll], fun j y hy => ?_⟩
        by_cases hj : j < l.length
        · rw [List.getElem?_append_left hj] at hy
          exact hle j y hy
        · have hjq : j = q := by have := (List.getElem?_eq_some_iff.1 hy).1; simp [hll] at this; omega
          subst hjq
          rw [← hll, List.getElem?_concat_length] at hy
          obtain rfl := Option.some.inj hy
          exact hx
    obtain ⟨l, hll, hat⟩ := build len (Nat.le_refl _)
    subst hll
    exact ⟨some a, l, cap, rfl, hl, rfl, by unfold maxLen at hm; omega, fun _ => ⟨a, rfl, hat⟩⟩
set_option maxRecDepth 100000 in
theorem deed_K {H : Type} {enc : TypeId × Value → H} {W : World} {base : Nat} {spare : Nat → Bool} {held : Bool} {n : Nat} {cs : List Value} {y : DataW H × List MemPlace} (h : DataW.trod enc Try.prog W base spare held n 46 cs = some y) : ∃ x, X.k46.K W x cs := by
  obtain ⟨xs, n, _, hx, hlen, hxlen, hg⟩ := DataW.trod_struct Try.underlying46 h
  have hxl : xs.length = 4 := hxlen
  have hc4 : Try.prog.cellsOf 46 = 4 := by kernel_rfl
  rw [hc4] at hlen
  match cs, hlen with
  | [c0, c1, c2, c3], _ =>
    have f0 := hg 0 _ rfl
    have f1 := hg 1 _ rfl
    have f2 := hg 2 _ rfl
    have f3 := hg 3 _ rfl
    rw [List.getElem?_eq_getElem (by omega)] at f0 f1 f2 f3
    obtain ⟨n0, q0, _⟩ := DataW.trod_int Try.underlying3 f0
    obtain ⟨s1, q1, _⟩ := DataW.trod_string Try.underlying9 f1
    obtain ⟨s2, q2, _⟩ := DataW.trod_string Try.underlying9 f2
    obtain ⟨n3, q3, _⟩ := DataW.trod_int Try.underlying3 f3
    have z0 : c0 = .int .i64 n0 := by simpa [cellsI] using q0
    have z1 : c1 = .string s1 := by simpa [cellsS] using q1
    have z2 : c2 = .string s2 := by simpa [cellsS] using q2
    have z3 : c3 = .int .i64 n3 := by simpa [cellsI] using q3
    rw [z0, z1, z2, z3]
    exact ⟨⟨n0, s1, s2, n3⟩, X.k46_mk _ _⟩
set_option maxRecDepth 100000 in
theorem deeds_C {H : Type} {enc : TypeId × Value → H} {W : World} {base : Nat} {spare : Nat → Bool} {held : Bool} {r : Reach} {b0 : Nat} {v : Value} {d : DataW H} {p : List MemPlace} (hv : Value.okWide Try.prog W r b0 42 v) (h : DataW.Trod enc Try.prog W base spare held 42 v d p) :
    ∃ (A : Option Addr) (l : List X.S46) (c : Nat), v = .slice A l.length c ∧ l.length ≤ c ∧ Kd.C X.k46 W A l.length l :=
  slice_C X.k46 Try.underlying42 (by kernel_rfl) (fun _ _ _ ht => deed_K ht) hv h
end Go.Proofs.Ytcmjgkmnbenniaa.Ext
