/- do: a deed done to a bill; what it changes. -/
import Derived.Test.YtcmjgkmnbenniaaWay
namespace Go.Proofs.Ytcmjgkmnbenniaa.Ext
open Go.RowKit Go.Maps Go.WideMaps Go.Proofs.YtcmjgkmnbenniaaW.PrintWords Go.Proofs.YtcmjgkmnbenniaaW.PrintLast
def doCode (call : Int) (x y : ByteArray) (day : Int) (d : Dr) (b : St) : Int :=
  if call = 0 then acceptCode x day d b else if call = 1 then passCode x y day b else if call = 2 then payCode x day d b else if call = 3 then holdCode x day b else -1
def doSt (call : Int) (x y : ByteArray) (day : Int) (d : Dr) (b : St) : St :=
  if call = 0 then acceptSt (acceptCode x day d b) day b else if call = 1 then passSt (passCode x y day b) x y day b else if call = 2 then paySt (payCode x day d b) day b else if call = 3 then protestSt (holdCode x day b) day b else b
/-! ### what a deed changes -/
theorem chain_all : ∀ (l : List (Int × Bool)), (∀ p ∈ l, p.1 ≠ 0) → chain l = 0 → ∀ p ∈ l, p.2 = true
  | [], _, _ => fun _ h => by cases h
  | (e, ok) :: r, hne, h => by
    cases ok with
    | true =>
      intro p hp
      rcases List.mem_cons.1 hp with rfl | hp
      · rfl
      · exact chain_all r (fun q hq => hne q (List.mem_cons_of_mem _ hq)) (by simpa [chain] using h) p hp
    | false =>
      have : e = 0 := by simpa [chain] using h
      exact absurd this (hne (e, false) List.mem_cons_self)
/-- What holds if a deed was let in. -/
inductive Deed1 (call : Int) (x y : ByteArray) (day : Int) (d : Dr) (b b' : St) : Prop where
  | acc (h : call = 0) (hs : b.state = 0) (hx : x.toList = d.drawee.toList) (e : b' = { b with state := 1, acc := true, last := day })
  | pass (h : call = 1) (hs : b.state = 0 ∨ b.state = 1) (hx : x.toList = b.holder.toList) (hy : nameB y = true) (hyx : y.toList ≠ x.toList) (e : b' = { b with passed := b.passed ++ [x], holder := y, last := day })
  | pay (h : call = 2) (hs : b.state ≠ 2) (e : b' = { b with state := 2, last := day })
  | prot (h : call = 3) (hs : b.state = 0 ∨ b.state = 1) (e : b' = { b with state := 3, last := day })
theorem in01 {n : Int} (h : [(0 : Int), 1].contains n = true) : n = 0 ∨ n = 1 := by
  simpa using h
theorem hold_zero {x : ByteArray} {day : Int} {b : St} (h : holdCode x day b = 0) : (b.state = 0 ∨ b.state = 1) ∧ x.toList = b.holder.toList := by
  have := chain_all _ (by simp) h
  simp only [List.mem_cons, List.not_mem_nil, or_false, forall_eq_or_imp, forall_eq] at this
  obtain ⟨_, _, h3, h4⟩ := this
  exact ⟨in01 h3, by simpa using h4⟩
theorem do_zero {call : Int} {x y : ByteArray} {day : Int} {d : Dr} {b : St} (h : doCode call x y day d b = 0) : Deed1 call x y day d b (doSt call x y day d b) := by
  unfold doCode at h
  unfold doSt
  by_cases h0 : call = 0
  · rw [if_pos h0] at h ⊢
    have := chain_all _ (by simp) h
    simp only [List.mem_cons, List.not_mem_nil, or_false, forall_eq_or_imp, forall_eq] at this
    obtain ⟨_, _, h3, _, h5⟩ := this
    exact .acc h0 (by simpa using h3) (by simpa using h5) (by rw [h]; rfl)
  rw [if_neg h0] at h ⊢
  by_cases h1 : call = 1
  · rw [if_pos h1] at h ⊢
    have h' := h
    unfold passCode at h
    by_cases hp : nameB y = true ∧ y.toList ≠ x.toList
    · rw [if_pos hp] at h
      obtain ⟨a, c⟩ := hold_zero h
      exact .pass h1 a c hp.1 hp.2 (by rw [h']; rfl)
    · rw [if_neg hp] at h
      cases h
  rw [if_neg h1] at h ⊢
  by_cases h2 : call = 2
  · rw [if_pos h2] at h ⊢
    have := chain_all _ (by simp) h
    simp only [List.mem_cons, List.not_mem_nil, or_false, forall_eq_or_imp, forall_eq] at this
    obtain ⟨_, _, h3, _, _⟩ := this
    refine .pay h2 (fun e => ?_) (by rw [h]; rfl)
    rw [e] at h3
    exact absurd h3 (by decide)
  rw [if_neg h2] at h ⊢
  by_cases h3 : call = 3
  · rw [if_pos h3] at h ⊢
    exact .prot h3 (hold_zero h).1 (by rw [h]; rfl)
  rw [if_neg h3] at h
  cases h
theorem do_bad {call : Int} {x y : ByteArray} {day : Int} {d : Dr} {b : St} (h : doCode call x y day d b ≠ 0) : doSt call x y day d b = b := by
  unfold doCode at h
  unfold doSt
  by_cases h0 : call = 0
  · rw [if_pos h0] at h ⊢
    exact if_neg h
  rw [if_neg h0] at h ⊢
  by_cases h1 : call = 1
  · rw [if_pos h1] at h ⊢
    exact if_neg h
  rw [if_neg h1] at h ⊢
  by_cases h2 : call = 2
  · rw [if_pos h2] at h ⊢
    exact if_neg h
  rw [if_neg h2] at h ⊢
  by_cases h3 : call = 3
  · rw [if_pos h3] at h ⊢
    exact if_neg h
  rw [if_neg h3]
/-- Bounds that the walks need: how many passed it on, how long the holder's name is. -/
theorem do_len (call : Int) (x y : ByteArray) (day : Int) (d : Dr) (b : St) : (doSt call x y day d b).passed.length ≤ b.passed.length + 1 := by
  by_cases h : doCode call x y day d b = 0
  · rcases do_zero h with ⟨_, _, _, e⟩ | ⟨_, _, _, _, _, e⟩ | ⟨_, _, e⟩ | ⟨_, _, e⟩ <;> rw [e] <;> simp
  · rw [do_bad h]; omega
theorem do_holder (call : Int) (x y : ByteArray) (day : Int) (d : Dr) (b : St) (hy : y.size ≤ 100) (hb : b.holder.size ≤ 100) : (doSt call x y day d b).holder.size ≤ 100 := by
  by_cases h : doCode call x y day d b = 0
  · rcases do_zero h with ⟨_, _, _, e⟩ | ⟨_, _, _, _, _, e⟩ | ⟨_, _, e⟩ | ⟨_, _, e⟩ <;> rw [e] <;> first | exact hb | exact hy
  · rw [do_bad h]; exact hb
theorem do_small {call : Int} {x y : ByteArray} {day : Int} {d : Dr} {b : St} (hS : Short d) (hy : y.size ≤ 100) (hb : b.holder.size ≤ 100) {n : Nat} (hp : b.passed.length ≤ n) (hn : n ≤ 900) : Small d (doSt call x y day d b) := by
  have h1 := do_len call x y day d b
  have h2 := do_holder call x y day d b hy hb
  exact ⟨by have := hS.h1; omega, by have := hS.h2; omega, by have := hS.h3; omega, by have := hS.h4; omega, by omega, by omega⟩
theorem small_of {d : Dr} {b : St} (hS : Short d) (hb : b.holder.size ≤ 100) (hp : b.passed.length ≤ 900) : Small d b :=
  ⟨by have := hS.h1; omega, by have := hS.h2; omega, by have := hS.h3; omega, by have := hS.h4; omega, by omega, by omega⟩
theorem kept_up {w1 w2 w3 : World} {S : Nat → Prop} (h : Kept w1 w2 S) (k : Kept w2 w3 S) : Kept w1 w3 S :=
  ⟨Nat.le_trans h.1 k.1, fun i hi hn => (k.2 i (Nat.lt_of_lt_of_le hi h.1) hn).trans (h.2 i hi hn)⟩
/-! ### the walk -/
set_option maxHeartbeats 4000000 in
set_option maxRecDepth 100000 in
theorem do_any (call : Int) (x y : ByteArray) (day : Int) (hx : x.size ≤ 100) (hy : y.size ≤ 100) (w : World) (lo g m : Nat) (d : Dr) (b : St) (h : IsBill w lo g m d b) (hs : Small d b) (hp : b.passed.length ≤ 900) (hlo : lo ≤ w.heap.size) :
    Calls Try.prog 22 #[pt0 g, .agg #[.int .i64 call, .string x, .string y, .int .i64 day]] w fun e w' =>
      e = .returned (.int .i64 (doCode call x y day d b)) ∧ IsBill w' lo g m d (doSt call x y day d b) ∧ Below lo w w' ∧ Kept w w' (fun k => k = g ∨ k = m) := by
  have hltg := h.ltg
  have hltm := h.ltm
  have hll := liab_length d b
  have hB0 : Below w.heap.size w (w.alloc (.cells #[.int .i64 call, .string x, .string y, .int .i64 day] 46)) := below_alloc (Below.refl _ _) _
  have hK0 : Kept w (w.alloc (.cells #[.int .i64 call, .string x, .string y, .int .i64 day] 46)) (fun k => k = g ∨ k = m) := Kept.of_below hB0 _
  have hb0 := h.below hB0
  have hlo0 := Nat.le_trans hlo hB0.size
  have hone : ∀ {w1 w2 : World}, Kept w1 w2 (fun k => k = g) → Kept w1 w2 (fun k => k = g ∨ k = m) := fun hk => ⟨hk.1, fun k h1 h2 => hk.2 k h1 (fun q => h2 (.inl q))⟩
  by_cases h0 : call = 0
  · subst h0
    have e1 : Hid (doCode 0 x y day d b = acceptCode x day d b) := if_pos rfl
    have e2 : Hid (doSt 0 x y day d b = acceptSt (acceptCode x day d b) day b) := if_pos rfl
    have c := Accept_any x day (by omega) _ lo g m d b hb0 hlo0
    clear hll
    go_enter Try.func22, Try.ntmps22
    go_wp2_with fail
    refine c.mono ?_
    rintro e w1 ⟨rfl, hb1, hB1, hK1⟩
    go_wp2_with fail
    go_ret
    exact ⟨by rw [e1.out]; rfl, by rw [e2.out]; exact hb1, (hB0.mono hlo).trans hB1, kept_up hK0 (hone hK1)⟩
  by_cases h1 : call = 1
  · subst h1
    clear h0
    have e1 : Hid (doCode 1 x y day d b = passCode x y day b) := by show _ = _; unfold doCode; rw [if_neg (by decide), if_pos rfl]
    have e2 : Hid (doSt 1 x y day d b = passSt (passCode x y day b) x y day b) := by show _ = _; unfold doSt; rw [if_neg (by decide), if_pos rfl]
    have c := Pass_any x y day (by omega) (by omega) _ lo g m d b hb0 (by omega) hlo0
    clear hll
    go_enter Try.func22, Try.ntmps22
    go_wp2_with fail
    refine c.mono ?_
    rintro e w1 ⟨rfl, hb1, hB1, hK1⟩
    go_wp2_with fail
    go_ret
    exact ⟨by rw [e1.out]; rfl, by rw [e2.out]; exact hb1, (hB0.mono hlo).trans hB1, kept_up hK0 hK1⟩
  by_cases h2 : call = 2
  · subst h2
    clear h0 h1
    have e1 : Hid (doCode 2 x y day d b = payCode x day d b) := by show _ = _; unfold doCode; rw [if_neg (by decide), if_neg (by decide), if_pos rfl]
    have e2 : Hid (doSt 2 x y day d b = paySt (payCode x day d b) day b) := by show _ = _; unfold doSt; rw [if_neg (by decide), if_neg (by decide), if_pos rfl]
    have c := Pay_any x day (by omega) _ lo g m d b hb0 hs (by omega) hlo0
    clear hll
    go_enter Try.func22, Try.ntmps22
    go_wp2_with fail
    refine c.mono ?_
    rintro e w1 ⟨rfl, hb1, hB1, hK1⟩
    go_wp2_with fail
    go_ret
    exact ⟨by rw [e1.out]; rfl, by rw [e2.out]; exact hb1, (hB0.mono hlo).trans hB1, kept_up hK0 (hone hK1)⟩
  by_cases h3 : call = 3
  · subst h3
    clear h0 h1 h2
    have e1 : Hid (doCode 3 x y day d b = holdCode x day b) := by show _ = _; unfold doCode; rw [if_neg (by decide), if_neg (by decide), if_neg (by decide), if_pos rfl]
    have e2 : Hid (doSt 3 x y day d b = protestSt (holdCode x day b) day b) := by show _ = _; unfold doSt; rw [if_neg (by decide), if_neg (by decide), if_neg (by decide), if_pos rfl]
    have c := Protest_any x day (by omega) _ lo g m d b hb0 hlo0
    clear hll
    go_enter Try.func22, Try.ntmps22
    go_wp2_with fail
    refine c.mono ?_
    rintro e w1 ⟨rfl, hb1, hB1, hK1⟩
    go_wp2_with fail
    go_ret
    exact ⟨by rw [e1.out]; rfl, by rw [e2.out]; exact hb1, (hB0.mono hlo).trans hB1, kept_up hK0 (hone hK1)⟩
  · have e1 : Hid (doCode call x y day d b = -1) := by show _ = _; unfold doCode; rw [if_neg h0, if_neg h1, if_neg h2, if_neg h3]
    have e2 : Hid (doSt call x y day d b = b) := by show _ = _; unfold doSt; rw [if_neg h0, if_neg h1, if_neg h2, if_neg h3]
    have f0 : (call == 0) = false := by simp [h0]
    have f1 : (call == 1) = false := by simp [h1]
    have f2 : (call == 2) = false := by simp [h2]
    have f3 : (call == 3) = false := by simp [h3]
    clear h0 h1 h2 h3 hll
    go_enter Try.func22, Try.ntmps22
    go_wp2_with fail
    go_ret
    exact ⟨by rw [e1.out]; rfl, by rw [e2.out]; exact hb0, hB0.mono hlo, hK0⟩
end Go.Proofs.Ytcmjgkmnbenniaa.Ext
