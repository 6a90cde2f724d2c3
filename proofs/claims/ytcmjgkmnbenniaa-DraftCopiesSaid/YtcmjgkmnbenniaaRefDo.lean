/- The document's Do. Written by wip/refdo.py. -/
import Derived.Test.YtcmjgkmnbenniaaRefB38
namespace Go.Proofs.Ytcmjgkmnbenniaa.Ext
open Go.RowKit Go.Maps Go.WideMaps Go.Proofs.YtcmjgkmnbenniaaW.PrintWords Go.Proofs.YtcmjgkmnbenniaaW.PrintLast
theorem app_list {ops : Array Oper} {o : Oper} {rest : List Oper} {a : Act} {Q : Exit → Act → World → Prop} {w0 W : World} (base : Nat) (hgd : o.guard = none) (s x : Operand)
    (ho : o.op = .call { callee := .builtin .append, args := #[s, x], argTypes := #[26, 26] }) (v : Value) (xs ys : List ByteArray) (A : Option Addr) (m c : Nat) (ok : Nat → Prop) (hs : a.eval s = v) (hx : a.eval x = .slice A m c)
    (HO : Kd.R Kd.string 9 W base ok v xs) (HR : Kd.C Kd.string W A m ys) (hfresh : ∀ k, W.heap.size ≤ k → ok k) (HB : Below base w0 W) (hbase : base ≤ W.heap.size) (hl : xs.length + m ≤ 3000)
    (h : ∀ v1 w1, Kd.R Kd.string 9 w1 base ok v1 (xs ++ ys) → Below base w0 w1 → W.grownBy w1 v.ownBlock → (v1.ownBlock = v.ownBlock ∨ ∃ b, v1.ownBlock = some b ∧ W.heap.size ≤ b) → wpList Try.prog ops Q rest (a.put o.dst v1) w1) :
    wpList Try.prog ops Q (o :: rest) a W :=
  Kd.R_append_rows Kd.string (Rr := Kd.string.K W) base hgd s x 26 9 (.string ⟨#[]⟩) 16 ho Try.underlying26 infoStr rfl (by decide) (by decide) v xs ys A m c ok (fun _ => False) hs hx HO HR (fun _ _ h => h) (fun _ h => h.elim) hfresh HB hbase (by omega) h
theorem in_l (l : List ByteArray) (t : ByteArray) (hl : l.length ≤ 5000) (e : Nat) : ∀ (k i : Nat), i + e = l.length → e < k → X.supercargoref38_in.l0 k l t (i : Int) = some (Lib.containsS (l.drop i) t) := by
  induction e with
  | zero =>
    intro k i h hk
    obtain ⟨k, rfl⟩ : ∃ m, k = m + 1 := ⟨k - 1, by omega⟩
    simp only [X.supercargoref38_in.l0]
    rw [if_neg (by omega), List.drop_of_length_le (by omega)]
    rfl
  | succ e ih =>
    intro k i h hk
    obtain ⟨k, rfl⟩ : ∃ m, k = m + 1 := ⟨k - 1, by omega⟩
    simp only [X.supercargoref38_in.l0]
    have hi : i < l.length := by omega
    have e1 : rdOf ByteArray.empty l (i : Int) = l[i] := by unfold rdOf; rw [Int.toNat_natCast, List.getD_eq_getElem?_getD, List.getElem?_eq_getElem hi]; rfl
    rw [if_pos (by omega), if_pos (by omega), e1, w64 (by omega) (by omega), show ((i : Int) + 1) = ((i + 1 : Nat) : Int) by omega, ih k (i + 1) (by omega) (by omega), List.drop_eq_getElem_cons hi]
    by_cases c : l[i].toList = t.toList
    · rw [if_pos c]
      congr 1
      rw [eq_comm, Lib.containsS_iff]
      have : t = l[i] := by
        rw [ByteArray.toList_eq, ByteArray.toList_eq] at c
        obtain ⟨⟨a⟩⟩ := t
        revert c
        generalize l[i] = z
        obtain ⟨⟨b⟩⟩ := z
        rintro c
        simpa [eq_comm] using c
      rw [this]
      exact List.mem_cons_self
    · rw [if_neg c]
      congr 1
      rw [Bool.eq_iff_iff, Lib.containsS_iff, Lib.containsS_iff, List.mem_cons]
      constructor
      · exact fun h => .inr h
      · rintro (h | h)
        · exact absurd (by rw [h]) c
        · exact h
theorem in_f (l : List ByteArray) (t : ByteArray) (hl : l.length ≤ 5000) (k : Nat) (hk : l.length < k) : X.supercargoref38_in.f k l t = some (Lib.containsS l t) := by
  have := in_l l t hl l.length k 0 (by omega) hk
  simpa [X.supercargoref38_in.f] using this
theorem IsRef.set {w : World} {lo q : Nat} {d : Dr} {b b' : St} (h : IsRef w lo q d b) (i : Nat) (u : Value) (hb : ∀ A c, (refCells d b A c).setIfInBounds i u = refCells d b' A c) (hp : b'.passed = b.passed) : IsRef (w.setCell ⟨q, i, none⟩ u) lo q d b' := by
  obtain ⟨A, c, hbk, hR⟩ := h.out
  refine ⟨⟨A, c, ?_, ?_⟩, h.lo⟩
  · have := blk_set hbk i u
    rw [hb A c] at this
    exact this
  · rw [hp]
    exact R_far_texts hR (Kept.setCell (p := ⟨q, i, none⟩) (S := fun k => k = q) (Kept.refl w _) (.inl rfl) u) h.noTexts
/-- What the document's Do leaves. -/
def RefPost (c : Int) (x y : ByteArray) (day : Int) (lo q : Nat) (d : Dr) (b : St) (w : World) (e : Ending) (w' : World) : Prop :=
  e = .returned (.int .i64 (doCode c x y day d b)) ∧ IsRef w' lo q d (doSt c x y day d b) ∧ Below lo w w' ∧ Kept w w' (fun k => k = q)
theorem post_stay {c : Int} {x y : ByteArray} {day : Int} {lo q : Nat} {d : Dr} {b : St} {w w' : World} {n : Int} (hc : Hid (doCode c x y day d b = n)) (hn : n ≠ 0) (hB : Below w.heap.size w w') (href : IsRef w lo q d b) (hlo : lo ≤ w.heap.size) : RefPost c x y day lo q d b w (.returned (.int .i64 n)) w' := by
  have h := hc.out
  exact ⟨by rw [h], by rw [do_bad (by rw [h]; exact hn)]; exact href.below hB, hB.mono hlo, Kept.of_below hB _⟩
theorem post_ok {c : Int} {x y : ByteArray} {day : Int} {lo q : Nat} {d : Dr} {b b' : St} {w w' : World} (hc : Hid (doCode c x y day d b = 0)) (hs : Hid (doSt c x y day d b = b')) (href : IsRef w' lo q d b') (hB : Below lo w w') (hK : Kept w w' (fun k => k = q)) : RefPost c x y day lo q d b w (.returned (.int .i64 0)) w' := by
  have h := hc.out
  have h2 := hs.out
  exact ⟨by rw [h], by rw [h2]; exact href, hB, hK⟩
theorem dayB_lo {day : Int} (h : day < 0) : dayB day = false := by unfold dayB; rw [decide_eq_false (by omega : ¬ 0 ≤ day)]; rfl
theorem dayB_hi {day : Int} (h : 1048576 < day) : dayB day = false := by unfold dayB; rw [decide_eq_false (by omega : ¬ day ≤ 1048576), Bool.and_false]
theorem dayB_in {day : Int} (h : ¬ day < 0) (h2 : ¬ 1048576 < day) : dayB day = true := by unfold dayB; rw [decide_eq_true (by omega : 0 ≤ day), decide_eq_true (by omega : day ≤ 1048576)]; rfl
theorem c01_t {n : Int} (h0 : 0 ≤ n) (h : n ≤ 1) : [(0 : Int), 1].contains n = true := by
  have : n = 0 ∨ n = 1 := by omega
  rcases this with rfl | rfl <;> rfl
theorem c01_f {n : Int} (h : ¬ n ≤ 1) : [(0 : Int), 1].contains n = false := by
  rw [Bool.eq_false_iff]
  intro g
  rcases in01 g with e | e <;> omega
theorem ok_0 {x y : ByteArray} {day : Int} {lo q : Nat} {d : Dr} {b : St} {w W : World} (hc : Hid (doCode 0 x y day d b = 0)) (hs : Hid (doSt 0 x y day d b = { b with state := 1, acc := true, last := day })) (h : IsRef w lo q d b) (hlo : lo ≤ w.heap.size) (hB : Below w.heap.size w W) :
    RefPost 0 x y day lo q d b w (.returned (.int .i64 0)) (((W.setCell ⟨q, 13, none⟩ (.int .i64 day)).setCell ⟨q, 9, none⟩ (.int .i64 1)).setCell ⟨q, 10, none⟩ (.bool true)) := by
  have hD := h.below hB
  have h1 := hD.set 13 (.int .i64 day) (b' := { b with last := day }) (fun _ _ => by simp [refCells]) rfl
  have h2 := h1.set 9 (.int .i64 1) (b' := { b with last := day, state := 1 }) (fun _ _ => by simp [refCells]) rfl
  have h3 := h2.set 10 (.bool true) (b' := { b with state := 1, acc := true, last := day }) (fun _ _ => by simp [refCells]) rfl
  have B1 : Below lo w (W.setCell ⟨q, 13, none⟩ (.int .i64 day)) := (hB.mono hlo).setCell h.lo _
  have B2 : Below lo w ((W.setCell ⟨q, 13, none⟩ (.int .i64 day)).setCell ⟨q, 9, none⟩ (.int .i64 1)) := B1.setCell h.lo _
  have B3 : Below lo w (((W.setCell ⟨q, 13, none⟩ (.int .i64 day)).setCell ⟨q, 9, none⟩ (.int .i64 1)).setCell ⟨q, 10, none⟩ (.bool true)) := B2.setCell h.lo _
  have K1 : Kept w (W.setCell ⟨q, 13, none⟩ (.int .i64 day)) (fun k => k = q) := (Kept.of_below hB (fun k => k = q)).setCell (.inl rfl) _
  have K2 : Kept w ((W.setCell ⟨q, 13, none⟩ (.int .i64 day)).setCell ⟨q, 9, none⟩ (.int .i64 1)) (fun k => k = q) := K1.setCell (.inl rfl) _
  have K3 : Kept w (((W.setCell ⟨q, 13, none⟩ (.int .i64 day)).setCell ⟨q, 9, none⟩ (.int .i64 1)).setCell ⟨q, 10, none⟩ (.bool true)) (fun k => k = q) := K2.setCell (.inl rfl) _
  exact post_ok hc hs h3 B3 K3
theorem ok_2 {x y : ByteArray} {day : Int} {lo q : Nat} {d : Dr} {b : St} {w W : World} (hc : Hid (doCode 2 x y day d b = 0)) (hs : Hid (doSt 2 x y day d b = { b with state := 2, last := day })) (h : IsRef w lo q d b) (hlo : lo ≤ w.heap.size) (hB : Below w.heap.size w W) :
    RefPost 2 x y day lo q d b w (.returned (.int .i64 0)) ((W.setCell ⟨q, 13, none⟩ (.int .i64 day)).setCell ⟨q, 9, none⟩ (.int .i64 2)) := by
  have hD := h.below hB
  have h1 := hD.set 13 (.int .i64 day) (b' := { b with last := day }) (fun _ _ => by simp [refCells]) rfl
  have h2 := h1.set 9 (.int .i64 2) (b' := { b with last := day, state := 2 }) (fun _ _ => by simp [refCells]) rfl
  have B1 : Below lo w (W.setCell ⟨q, 13, none⟩ (.int .i64 day)) := (hB.mono hlo).setCell h.lo _
  have B2 : Below lo w ((W.setCell ⟨q, 13, none⟩ (.int .i64 day)).setCell ⟨q, 9, none⟩ (.int .i64 2)) := B1.setCell h.lo _
  have K1 : Kept w (W.setCell ⟨q, 13, none⟩ (.int .i64 day)) (fun k => k = q) := (Kept.of_below hB (fun k => k = q)).setCell (.inl rfl) _
  have K2 : Kept w ((W.setCell ⟨q, 13, none⟩ (.int .i64 day)).setCell ⟨q, 9, none⟩ (.int .i64 2)) (fun k => k = q) := K1.setCell (.inl rfl) _
  exact post_ok hc hs h2 B2 K2
theorem ok_3 {x y : ByteArray} {day : Int} {lo q : Nat} {d : Dr} {b : St} {w W : World} (hc : Hid (doCode 3 x y day d b = 0)) (hs : Hid (doSt 3 x y day d b = { b with state := 3, last := day })) (h : IsRef w lo q d b) (hlo : lo ≤ w.heap.size) (hB : Below w.heap.size w W) :
    RefPost 3 x y day lo q d b w (.returned (.int .i64 0)) ((W.setCell ⟨q, 13, none⟩ (.int .i64 day)).setCell ⟨q, 9, none⟩ (.int .i64 3)) := by
  have hD := h.below hB
  have h1 := hD.set 13 (.int .i64 day) (b' := { b with last := day }) (fun _ _ => by simp [refCells]) rfl
  have h2 := h1.set 9 (.int .i64 3) (b' := { b with last := day, state := 3 }) (fun _ _ => by simp [refCells]) rfl
  have B1 : Below lo w (W.setCell ⟨q, 13, none⟩ (.int .i64 day)) := (hB.mono hlo).setCell h.lo _
  have B2 : Below lo w ((W.setCell ⟨q, 13, none⟩ (.int .i64 day)).setCell ⟨q, 9, none⟩ (.int .i64 3)) := B1.setCell h.lo _
  have K1 : Kept w (W.setCell ⟨q, 13, none⟩ (.int .i64 day)) (fun k => k = q) := (Kept.of_below hB (fun k => k = q)).setCell (.inl rfl) _
  have K2 : Kept w ((W.setCell ⟨q, 13, none⟩ (.int .i64 day)).setCell ⟨q, 9, none⟩ (.int .i64 3)) (fun k => k = q) := K1.setCell (.inl rfl) _
  exact post_ok hc hs h2 B2 K2
theorem ok_1 {x y : ByteArray} {day : Int} {lo q c c6 n : Nat} {d : Dr} {b : St} {w W : World} {A A6 : Option Addr} (hc : Hid (doCode 1 x y day d b = 0)) (hs : Hid (doSt 1 x y day d b = { b with passed := b.passed ++ [x], holder := y, last := day }))
    (hb : W.heap[q]? = some (.cells (refCells d { b with last := day } A c) 53 (0, 0))) (hR : Kd.R Kd.string 9 W lo (fun _ => True) (.slice A6 (b.passed ++ [x]).length c6) (b.passed ++ [x])) (hq : lo ≤ q) (hB : Below lo w W) (hK : Kept w W (fun k => k = q)) (hn : (b.passed ++ [x]).length = n) :
    RefPost 1 x y day lo q d b w (.returned (.int .i64 0)) ((W.setCell ⟨q, 12, none⟩ (.slice A6 n c6)).setCell ⟨q, 11, none⟩ (.string y)) := by
  rw [hn] at hR
  have b1 := blk_set hb 12 (.slice A6 n c6)
  have b2 := blk_set b1 11 (.string y)
  have B1 : Below lo w (W.setCell ⟨q, 12, none⟩ (.slice A6 n c6)) := hB.setCell hq _
  have B2 : Below lo w ((W.setCell ⟨q, 12, none⟩ (.slice A6 n c6)).setCell ⟨q, 11, none⟩ (.string y)) := B1.setCell hq _
  have K1 : Kept w (W.setCell ⟨q, 12, none⟩ (.slice A6 n c6)) (fun k => k = q) := hK.setCell (.inl rfl) _
  have K2 : Kept w ((W.setCell ⟨q, 12, none⟩ (.slice A6 n c6)).setCell ⟨q, 11, none⟩ (.string y)) (fun k => k = q) := K1.setCell (.inl rfl) _
  have L1 : Kept W (W.setCell ⟨q, 12, none⟩ (.slice A6 n c6)) (fun k => k = q) := (Kept.refl W (fun k => k = q)).setCell (.inl rfl) _
  have L2 : Kept W ((W.setCell ⟨q, 12, none⟩ (.slice A6 n c6)).setCell ⟨q, 11, none⟩ (.string y)) (fun k => k = q) := L1.setCell (.inl rfl) _
  refine post_ok hc hs ⟨⟨A6, c6, ?_, ?_⟩, hq⟩ B2 K2
  · rw [b2, ← hn]
    simp [refCells]
  · show Kd.R Kd.string 9 _ lo (fun _ => True) (.slice A6 (b.passed ++ [x]).length c6) (b.passed ++ [x])
    rw [hn]
    refine R_far_texts hR L2 ?_
    rintro k rfl cells hcc
    have := hb.symm.trans hcc
    simp only [Option.some.injEq, Obj.cells.injEq] at this
    exact absurd this.2.1 (by decide)
/-- Behind a bound that is above what there was. -/
theorem below_set_size {w W : World} {p : Addr} {u : Value} (hB : Below w.heap.size w W) : w.heap.size ≤ (W.setCell p u).heap.size := Nat.le_trans hB.size (by simp [World.setCell])
theorem kept_lo {w W W' : World} {N : Nat} {S : Nat → Prop} (hk : Kept w W S) (hN : w.heap.size ≤ N) (hb : Below N W W') : Kept w W' S :=
  ⟨Nat.le_trans hk.1 hb.size, fun i hi hn => (hb.block i (Nat.lt_of_lt_of_le hi hN)).trans (hk.2 i hi hn)⟩
theorem ref_mid {day : Int} {lo q c : Nat} {d : Dr} {b : St} {w W W5 : World} {A : Option Addr} (hb : w.heap[q]? = some (.cells (refCells d b A c) 53 (0, 0))) (hq : lo ≤ q) (hlo : lo ≤ w.heap.size) (hql : q < w.heap.size) (hB : Below w.heap.size w W)
    (h5 : Below w.heap.size (W.setCell ⟨q, 13, none⟩ (.int .i64 day)) W5) :
    W5.heap[q]? = some (.cells (refCells d { b with last := day } A c) 53 (0, 0)) ∧ Below lo w W5 ∧ Kept w W5 (fun k => k = q) := by
  have hb1 := blk_set (blk_below hb hB) 13 (.int .i64 day)
  have e : (refCells d b A c).setIfInBounds 13 (.int .i64 day) = refCells d { b with last := day } A c := by simp [refCells]
  rw [e] at hb1
  have B1 : Below lo w (W.setCell ⟨q, 13, none⟩ (.int .i64 day)) := (hB.mono hlo).setCell hq _
  have K1 : Kept w (W.setCell ⟨q, 13, none⟩ (.int .i64 day)) (fun k => k = q) := (Kept.of_below hB (fun k => k = q)).setCell (.inl rfl) _
  exact ⟨(h5.block q hql).trans hb1, B1.trans (h5.mono hlo), kept_lo K1 (Nat.le_refl _) h5⟩
theorem pass_lit {day : Int} {lo q c : Nat} {d : Dr} {b : St} {w W : World} {A : Option Addr} (hb : w.heap[q]? = some (.cells (refCells d b A c) 53 (0, 0))) (hR : Kd.R Kd.string 9 w lo (fun _ => True) (.slice A b.passed.length c) b.passed) (hql : q < w.heap.size)
    (hB : Below w.heap.size w W) (hWs : W.heap.size = w.heap.size := by simp) :
    Kd.R Kd.string 9 ((W.setCell ⟨q, 13, none⟩ (.int .i64 day)).alloc (.cells #[] 9)) w.heap.size (fun _ => True) (.slice (some ⟨w.heap.size, 0, none⟩) 0 0) []
    ∧ Kd.C Kd.string ((W.setCell ⟨q, 13, none⟩ (.int .i64 day)).alloc (.cells #[] 9)) A b.passed.length b.passed
    ∧ Below w.heap.size (W.setCell ⟨q, 13, none⟩ (.int .i64 day)) ((W.setCell ⟨q, 13, none⟩ (.int .i64 day)).alloc (.cells #[] 9))
    ∧ w.heap.size ≤ ((W.setCell ⟨q, 13, none⟩ (.int .i64 day)).alloc (.cells #[] 9)).heap.size := by
  have hs : (W.setCell ⟨q, 13, none⟩ (.int .i64 day)).heap.size = w.heap.size := by simpa [World.setCell] using hWs
  have K1 : Kept w (W.setCell ⟨q, 13, none⟩ (.int .i64 day)) (fun k => k = q) := (Kept.of_below hB (fun k => k = q)).setCell (.inl rfl) _
  have hC := (Kd.R_reads' (R_far_texts hR K1 (by
    rintro k rfl cells hcc
    have := hb.symm.trans hcc
    simp only [Option.some.injEq, Obj.cells.injEq] at this
    exact absurd this.2.1 (by decide)))).2.2
  have h1 := lit_row (W.setCell ⟨q, 13, none⟩ (.int .i64 day)) [] (by simp)
  have h2 : Below (W.setCell ⟨q, 13, none⟩ (.int .i64 day)).heap.size (W.setCell ⟨q, 13, none⟩ (.int .i64 day)) ((W.setCell ⟨q, 13, none⟩ (.int .i64 day)).alloc (.cells #[] 9)) := below_alloc (Below.refl _ _) _
  have hC2 := Kd.C_below hC h2
  simp only [List.map_nil, List.length_nil, hs] at h1 h2
  exact ⟨Kd.R_mono h1 (fun _ _ => trivial), hC2, h2, by simp [hs]⟩
set_option maxHeartbeats 16000000 in
set_option maxRecDepth 100000 in
theorem RefDo0 (x y : ByteArray) (day : Int) (hx : x.size ≤ 100) (_hy : y.size ≤ 100) (w : World) (lo q : Nat) (d : Dr) (b : St) (h : IsRef w lo q d b) (_hp : b.passed.length ≤ 900) (_hst : 0 ≤ b.state ∧ b.state ≤ 3) (hlo : lo ≤ w.heap.size) :
    Calls Try.prog 25 #[pt0 q, .int .i64 0, .string x, .string y, .int .i64 day] w (RefPost 0 x y day lo q d b w) := by
  obtain ⟨A, c, hb, hR⟩ := h.out
  have hq2 : w.cell? ⟨q, 2, none⟩ = some (.string d.drawee) := (blk_cell hb 2).trans rfl
  have hq6 : w.cell? ⟨q, 6, none⟩ = some (.int .i64 d.kind) := (blk_cell hb 6).trans rfl
  have hq9 : w.cell? ⟨q, 9, none⟩ = some (.int .i64 b.state) := (blk_cell hb 9).trans rfl
  have hq10 : w.cell? ⟨q, 10, none⟩ = some (.bool b.acc) := (blk_cell hb 10).trans rfl
  have hq11 : w.cell? ⟨q, 11, none⟩ = some (.string b.holder) := (blk_cell hb 11).trans rfl
  have hq12 : w.cell? ⟨q, 12, none⟩ = some (.slice A b.passed.length c) := (blk_cell hb 12).trans rfl
  have hq13 : w.cell? ⟨q, 13, none⟩ = some (.int .i64 b.last) := (blk_cell hb 13).trans rfl
  have f9 : w.frozen? ⟨q, 9, none⟩ = false := blk_frozen hb 9
  have f10 : w.frozen? ⟨q, 10, none⟩ = false := blk_frozen hb 10
  have f13 : w.frozen? ⟨q, 13, none⟩ = false := blk_frozen hb 13
  have cX := fun W => X.supercargoref06_Name.calls 110 x (nameB x) W (name_f x (by omega) 110 (by omega))
  cases hn : nameB x with
  | false =>
    rw [hn] at cX
    have hcode : Hid (doCode 0 x y day d b = 1) := by show _ = _; simp [doCode, acceptCode, chain, hn]
    clear hn
    go_enter Try.func25, Try.ntmps25
    go_wp2_with fail
    refine (cX _).mono ?_
    rintro e w' ⟨rfl, nd, rfl⟩
    go_wp2_with fail
    go_ret
    exact post_stay hcode (by decide) (by with_reducible repeat (first | exact Below.refl _ _ | apply pw_below_drewN | apply below_alloc)) h hlo
  | true =>
    rw [hn] at cX
    by_cases t2 : day < 0
    · have hd := dayB_lo t2
      have t2b : decide (day < 0) = true := decide_eq_true t2
      have hcode : Hid (doCode 0 x y day d b = 1) := by show _ = _; simp [doCode, acceptCode, chain, hn, hd]
      clear hn hd t2
      go_enter Try.func25, Try.ntmps25
      go_wp2_with fail
      refine (cX _).mono ?_
      rintro e w' ⟨rfl, nd, rfl⟩
      go_wp2_with fail
      go_ret
      exact post_stay hcode (by decide) (by with_reducible repeat (first | exact Below.refl _ _ | apply pw_below_drewN | apply below_alloc)) h hlo
    have t2b : decide (day < 0) = false := decide_eq_false t2
    by_cases t3 : 1048576 < day
    · have hd := dayB_hi t3
      have t3b : decide (1048576 < day) = true := decide_eq_true t3
      have hcode : Hid (doCode 0 x y day d b = 1) := by show _ = _; simp [doCode, acceptCode, chain, hn, hd]
      clear hn hd t2 t3
      go_enter Try.func25, Try.ntmps25
      go_wp2_with fail
      refine (cX _).mono ?_
      rintro e w' ⟨rfl, nd, rfl⟩
      go_wp2_with fail
      go_ret
      exact post_stay hcode (by decide) (by with_reducible repeat (first | exact Below.refl _ _ | apply pw_below_drewN | apply below_alloc)) h hlo
    have t3b : decide (1048576 < day) = false := decide_eq_false t3
    have hd := dayB_in t2 t3
    clear t2 t3
    by_cases t5 : day < b.last
    · have hl : decide (b.last ≤ day) = false := decide_eq_false (by omega)
      have t5b : decide (day < b.last) = true := decide_eq_true t5
      have hcode : Hid (doCode 0 x y day d b = 6) := by show _ = _; simp [doCode, acceptCode, chain, hn, hd, hl]
      clear hn hd hl t5
      go_enter Try.func25, Try.ntmps25
      go_wp2_with fail
      refine (cX _).mono ?_
      rintro e w' ⟨rfl, nd, rfl⟩
      go_wp2_with fail
      go_ret
      exact post_stay hcode (by decide) (by with_reducible repeat (first | exact Below.refl _ _ | apply pw_below_drewN | apply below_alloc)) h hlo
    have hl : decide (b.last ≤ day) = true := decide_eq_true (by omega)
    have t5b : decide (day < b.last) = false := decide_eq_false t5
    clear t5
    by_cases s0 : b.state = 0
    · rw [s0] at hq9
      have s0c : [(0 : Int)].contains b.state = true := by rw [s0]; rfl
      by_cases k0 : d.kind = 0
      · rw [k0] at hq6
        have k0c : (d.kind != 0) = false := by rw [k0]; rfl
        have hcode : Hid (doCode 0 x y day d b = 9) := by show _ = _; simp [doCode, acceptCode, chain, hn, hd, hl, s0, k0]
        clear hn hd hl s0 s0c k0 k0c
        go_enter Try.func25, Try.ntmps25
        go_wp2_with fail
        refine (cX _).mono ?_
        rintro e w' ⟨rfl, nd, rfl⟩
        go_wp2_with fail
        go_quiet (fail)
        go_wp2_with fail
        go_ret
        exact post_stay hcode (by decide) (by with_reducible repeat (first | exact Below.refl _ _ | apply pw_below_drewN | apply below_alloc)) h hlo
      · have k0b : (d.kind == 0) = false := by simp [k0]
        by_cases xw : x.toList = d.drawee.toList
        · have xb : (x.toList == d.drawee.toList) = true := beq_iff_eq.2 xw
          have hcode : Hid (doCode 0 x y day d b = 0) := by show _ = _; simp [doCode, acceptCode, chain, hn, hd, hl, s0, k0, xb]
          have hsn : Hid (doSt 0 x y day d b = { b with state := 1, acc := true, last := day }) := by show _ = _; have hq := hcode.out; unfold doCode at hq; simp at hq; unfold doSt; simp [acceptSt, hq]
          clear hn hd hl s0 s0c k0 xw
          go_enter Try.func25, Try.ntmps25
          go_wp2_with fail
          refine (cX _).mono ?_
          rintro e w' ⟨rfl, nd, rfl⟩
          go_wp2_with fail
          go_quiet (fail)
          go_wp2_with fail
          go_ret
          exact ok_0 hcode hsn h hlo (by with_reducible repeat (first | exact Below.refl _ _ | apply pw_below_drewN | apply below_alloc))
        · have xb : (x.toList == d.drawee.toList) = false := beq_eq_false_iff_ne.2 xw
          have hcode : Hid (doCode 0 x y day d b = 8) := by show _ = _; simp [doCode, acceptCode, chain, hn, hd, hl, s0, k0, xb]
          clear hn hd hl s0 s0c k0 xw
          go_enter Try.func25, Try.ntmps25
          go_wp2_with fail
          refine (cX _).mono ?_
          rintro e w' ⟨rfl, nd, rfl⟩
          go_wp2_with fail
          go_quiet (fail)
          go_wp2_with fail
          go_ret
          exact post_stay hcode (by decide) (by with_reducible repeat (first | exact Below.refl _ _ | apply pw_below_drewN | apply below_alloc)) h hlo
    · have s0b : (b.state == 0) = false := by simp [s0]
      have hcode : Hid (doCode 0 x y day d b = 9) := by show _ = _; simp [doCode, acceptCode, chain, hn, hd, hl, s0]
      clear hn hd hl s0
      go_enter Try.func25, Try.ntmps25
      go_wp2_with fail
      refine (cX _).mono ?_
      rintro e w' ⟨rfl, nd, rfl⟩
      go_wp2_with fail
      go_quiet (fail)
      go_wp2_with fail
      go_ret
      exact post_stay hcode (by decide) (by with_reducible repeat (first | exact Below.refl _ _ | apply pw_below_drewN | apply below_alloc)) h hlo
set_option maxHeartbeats 16000000 in
set_option maxRecDepth 100000 in
theorem RefDo1 (x y : ByteArray) (day : Int) (hx : x.size ≤ 100) (hy : y.size ≤ 100) (w : World) (lo q : Nat) (d : Dr) (b : St) (h : IsRef w lo q d b) (hp : b.passed.length ≤ 900) (hst : 0 ≤ b.state ∧ b.state ≤ 3) (hlo : lo ≤ w.heap.size) :
    Calls Try.prog 25 #[pt0 q, .int .i64 1, .string x, .string y, .int .i64 day] w (RefPost 1 x y day lo q d b w) := by
  obtain ⟨A, c, hb, hR⟩ := h.out
  have hq2 : w.cell? ⟨q, 2, none⟩ = some (.string d.drawee) := (blk_cell hb 2).trans rfl
  have hq6 : w.cell? ⟨q, 6, none⟩ = some (.int .i64 d.kind) := (blk_cell hb 6).trans rfl
  have hq9 : w.cell? ⟨q, 9, none⟩ = some (.int .i64 b.state) := (blk_cell hb 9).trans rfl
  have hq10 : w.cell? ⟨q, 10, none⟩ = some (.bool b.acc) := (blk_cell hb 10).trans rfl
  have hq11 : w.cell? ⟨q, 11, none⟩ = some (.string b.holder) := (blk_cell hb 11).trans rfl
  have hq12 : w.cell? ⟨q, 12, none⟩ = some (.slice A b.passed.length c) := (blk_cell hb 12).trans rfl
  have hq13 : w.cell? ⟨q, 13, none⟩ = some (.int .i64 b.last) := (blk_cell hb 13).trans rfl
  have hqlt : q < w.heap.size := blk_lt hb
  have f11 : w.frozen? ⟨q, 11, none⟩ = false := blk_frozen hb 11
  have f12 : w.frozen? ⟨q, 12, none⟩ = false := blk_frozen hb 12
  have f13 : w.frozen? ⟨q, 13, none⟩ = false := blk_frozen hb 13
  have cX := fun W => X.supercargoref06_Name.calls 110 x (nameB x) W (name_f x (by omega) 110 (by omega))
  cases hn : nameB x with
  | false =>
    rw [hn] at cX
    have hcode : Hid (doCode 1 x y day d b = 1) := by show _ = _; simp [doCode, passCode, holdCode, chain, hn]
    clear hn
    go_enter Try.func25, Try.ntmps25
    go_wp2_with fail
    refine (cX _).mono ?_
    rintro e w' ⟨rfl, nd, rfl⟩
    go_wp2_with fail
    go_ret
    exact post_stay hcode (by decide) (by with_reducible repeat (first | exact Below.refl _ _ | apply pw_below_drewN | apply below_alloc)) h hlo
  | true =>
    rw [hn] at cX
    by_cases t2 : day < 0
    · have hd := dayB_lo t2
      have t2b : decide (day < 0) = true := decide_eq_true t2
      have hcode : Hid (doCode 1 x y day d b = 1) := by show _ = _; simp [doCode, passCode, holdCode, chain, hn, hd]
      clear hn hd t2
      go_enter Try.func25, Try.ntmps25
      go_wp2_with fail
      refine (cX _).mono ?_
      rintro e w' ⟨rfl, nd, rfl⟩
      go_wp2_with fail
      go_ret
      exact post_stay hcode (by decide) (by with_reducible repeat (first | exact Below.refl _ _ | apply pw_below_drewN | apply below_alloc)) h hlo
    have t2b : decide (day < 0) = false := decide_eq_false t2
    by_cases t3 : 1048576 < day
    · have hd := dayB_hi t3
      have t3b : decide (1048576 < day) = true := decide_eq_true t3
      have hcode : Hid (doCode 1 x y day d b = 1) := by show _ = _; simp [doCode, passCode, holdCode, chain, hn, hd]
      clear hn hd t2 t3
      go_enter Try.func25, Try.ntmps25
      go_wp2_with fail
      refine (cX _).mono ?_
      rintro e w' ⟨rfl, nd, rfl⟩
      go_wp2_with fail
      go_ret
      exact post_stay hcode (by decide) (by with_reducible repeat (first | exact Below.refl _ _ | apply pw_below_drewN | apply below_alloc)) h hlo
    have t3b : decide (1048576 < day) = false := decide_eq_false t3
    have hd := dayB_in t2 t3
    clear t2 t3
    have cY := fun W => X.supercargoref06_Name.calls 110 y (nameB y) W (name_f y (by omega) 110 (by omega))
    cases hny : nameB y with
    | false =>
      rw [hny] at cY
      have hcode : Hid (doCode 1 x y day d b = 1) := by show _ = _; simp [doCode, passCode, hny]
      clear hn hd hny
      go_enter Try.func25, Try.ntmps25
      go_wp2_with fail
      refine (cX _).mono ?_
      rintro e w' ⟨rfl, nd, rfl⟩
      go_wp2_with fail
      refine (cY _).mono ?_
      rintro e w' ⟨rfl, nd2, rfl⟩
      go_wp2_with fail
      go_ret
      exact post_stay hcode (by decide) (by with_reducible repeat (first | exact Below.refl _ _ | apply pw_below_drewN | apply below_alloc)) h hlo
    | true =>
      rw [hny] at cY
      by_cases hyx : y.toList = x.toList
      · have hyb : (y.toList == x.toList) = true := beq_iff_eq.2 hyx
        have hcode : Hid (doCode 1 x y day d b = 1) := by show _ = _; simp [doCode, passCode, hny, hyx]
        clear hn hd hny hyx
        go_enter Try.func25, Try.ntmps25
        go_wp2_with fail
        refine (cX _).mono ?_
        rintro e w' ⟨rfl, nd, rfl⟩
        go_wp2_with fail
        refine (cY _).mono ?_
        rintro e w' ⟨rfl, nd2, rfl⟩
        go_wp2_with fail
        go_ret
        exact post_stay hcode (by decide) (by with_reducible repeat (first | exact Below.refl _ _ | apply pw_below_drewN | apply below_alloc)) h hlo
      have hyb : (y.toList == x.toList) = false := beq_eq_false_iff_ne.2 hyx
      by_cases t5 : day < b.last
      · have hl : decide (b.last ≤ day) = false := decide_eq_false (by omega)
        have t5b : decide (day < b.last) = true := decide_eq_true t5
        have hcode : Hid (doCode 1 x y day d b = 6) := by show _ = _; simp [doCode, passCode, holdCode, chain, hn, hd, hny, hyx, hl]
        clear hn hd hny hyx hl t5
        go_enter Try.func25, Try.ntmps25
        go_wp2_with fail
        refine (cX _).mono ?_
        rintro e w' ⟨rfl, nd, rfl⟩
        go_wp2_with fail
        refine (cY _).mono ?_
        rintro e w' ⟨rfl, nd2, rfl⟩
        go_wp2_with fail
        go_ret
        exact post_stay hcode (by decide) (by with_reducible repeat (first | exact Below.refl _ _ | apply pw_below_drewN | apply below_alloc)) h hlo
      have hl : decide (b.last ≤ day) = true := decide_eq_true (by omega)
      have t5b : decide (day < b.last) = false := decide_eq_false t5
      clear t5
      by_cases s1 : b.state ≤ 1
      · have s1c := c01_t hst.1 s1
        have s1b : decide (b.state ≤ 1) = true := decide_eq_true s1
        clear s1
        by_cases xw : x.toList = b.holder.toList
        · have xb : (x.toList == b.holder.toList) = true := beq_iff_eq.2 xw
          have hcode : Hid (doCode 1 x y day d b = 0) := by show _ = _; unfold doCode passCode holdCode; simp only [s1c]; simp [chain, hn, hd, hny, hyx, hl, xb]
          have hsn : Hid (doSt 1 x y day d b = { b with passed := b.passed ++ [x], holder := y, last := day }) := by show _ = _; have hq := hcode.out; unfold doCode at hq; simp at hq; unfold doSt; simp [passSt, hq]
          clear hn hd hny hyx hl s1c xw
          go_enter Try.func25, Try.ntmps25
          go_wp2_with fail
          refine (cX _).mono ?_
          rintro e w' ⟨rfl, nd, rfl⟩
          go_wp2_with fail
          refine (cY _).mono ?_
          rintro e w' ⟨rfl, nd2, rfl⟩
          go_wp2_with fail
          go_quiet (fail)
          obtain ⟨hR0, hC0, hB0, hs0⟩ := pass_lit (day := day) hb hR hqlt (W := w.drewN (nd + nd2 + nq)) (by with_reducible repeat (first | exact Below.refl _ _ | apply pw_below_drewN | apply below_alloc))
          go_wp2_with (at_builtin; refine app_list w.heap.size rfl (.tmp 140) (.tmp 144) rfl (.slice (some ⟨w.heap.size, 0, none⟩) 0 0) [] b.passed A b.passed.length c (fun _ => True) rfl rfl hR0 hC0 (fun _ _ => trivial) hB0 hs0 (by simp; omega) ?_)
          intro v5 W5 R5 HB5 hg5 hat5
          obtain ⟨hq5, HL5, HK5⟩ := ref_mid hb h.lo hlo hqlt (by with_reducible repeat (first | exact Below.refl _ _ | apply pw_below_drewN | apply below_alloc)) HB5
          clear hg5 hat5 hR0 hC0 hB0 hs0
          have hs5 : w.heap.size ≤ W5.heap.size := HK5.1
          go_wp2_with (at_builtin; refine app_list w.heap.size rfl (.tmp 145) (.tmp 147) rfl v5 b.passed [x] _ 1 1 (fun _ => True) rfl rfl (Kd.R_alloc R5 _) (Kd_lit (blk_new W5 _)) (fun _ _ => trivial) ((below_alloc (Below.refl _ W5) _).mono hs5) (Nat.le_trans hs5 (by simp)) (by omega) ?_)
          intro v6 W6 R6 HB6 hg6 hat6
          obtain ⟨A6, c6, rfl⟩ := Kd.R_slice R6
          have hq6 := (HB6.block q hqlt).trans hq5
          have HL6 := HL5.trans (HB6.mono hlo)
          have HK6 := kept_lo HK5 (Nat.le_refl _) HB6
          have z11 : W6.cell? ⟨q, 11, none⟩ = some (.string b.holder) := (blk_cell hq6 11).trans rfl
          have z12 : W6.cell? ⟨q, 12, none⟩ = some (.slice A b.passed.length c) := (blk_cell hq6 12).trans rfl
          have y11 : W6.frozen? ⟨q, 11, none⟩ = false := blk_frozen hq6 11
          have y12 : W6.frozen? ⟨q, 12, none⟩ = false := blk_frozen hq6 12
          have R6l := Kd.R_lower R6 hlo
          clear R6 R5 HB5 HB6 hg6 hat6 hq5 hs5
          go_wp2_with fail
          go_ret
          exact ok_1 hcode hsn hq6 R6l h.lo HL6 HK6 (by simp)
        · have xb : (x.toList == b.holder.toList) = false := beq_eq_false_iff_ne.2 xw
          have hcode : Hid (doCode 1 x y day d b = 8) := by show _ = _; unfold doCode passCode holdCode; simp only [s1c]; simp [chain, hn, hd, hny, hyx, hl, xb]
          clear hn hd hny hyx hl s1c xw
          go_enter Try.func25, Try.ntmps25
          go_wp2_with fail
          refine (cX _).mono ?_
          rintro e w' ⟨rfl, nd, rfl⟩
          go_wp2_with fail
          refine (cY _).mono ?_
          rintro e w' ⟨rfl, nd2, rfl⟩
          go_wp2_with fail
          go_quiet (fail)
          go_wp2_with fail
          go_ret
          exact post_stay hcode (by decide) (by with_reducible repeat (first | exact Below.refl _ _ | apply pw_below_drewN | apply below_alloc)) h hlo
      · have s1c := c01_f s1
        have s1b : decide (b.state ≤ 1) = false := decide_eq_false s1
        clear s1
        have hcode : Hid (doCode 1 x y day d b = 9) := by show _ = _; unfold doCode passCode holdCode; simp only [s1c]; simp [chain, hn, hd, hny, hyx, hl]
        clear hn hd hny hyx hl s1c
        go_enter Try.func25, Try.ntmps25
        go_wp2_with fail
        refine (cX _).mono ?_
        rintro e w' ⟨rfl, nd, rfl⟩
        go_wp2_with fail
        refine (cY _).mono ?_
        rintro e w' ⟨rfl, nd2, rfl⟩
        go_wp2_with fail
        go_quiet (fail)
        go_wp2_with fail
        go_ret
        exact post_stay hcode (by decide) (by with_reducible repeat (first | exact Below.refl _ _ | apply pw_below_drewN | apply below_alloc)) h hlo
set_option maxHeartbeats 16000000 in
set_option maxRecDepth 100000 in
theorem RefDo2 (x y : ByteArray) (day : Int) (hx : x.size ≤ 100) (_hy : y.size ≤ 100) (w : World) (lo q : Nat) (d : Dr) (b : St) (h : IsRef w lo q d b) (hp : b.passed.length ≤ 900) (hst : 0 ≤ b.state ∧ b.state ≤ 3) (hlo : lo ≤ w.heap.size) :
    Calls Try.prog 25 #[pt0 q, .int .i64 2, .string x, .string y, .int .i64 day] w (RefPost 2 x y day lo q d b w) := by
  obtain ⟨A, c, hb, hR⟩ := h.out
  have hq2 : w.cell? ⟨q, 2, none⟩ = some (.string d.drawee) := (blk_cell hb 2).trans rfl
  have hq6 : w.cell? ⟨q, 6, none⟩ = some (.int .i64 d.kind) := (blk_cell hb 6).trans rfl
  have hq9 : w.cell? ⟨q, 9, none⟩ = some (.int .i64 b.state) := (blk_cell hb 9).trans rfl
  have hq10 : w.cell? ⟨q, 10, none⟩ = some (.bool b.acc) := (blk_cell hb 10).trans rfl
  have hq11 : w.cell? ⟨q, 11, none⟩ = some (.string b.holder) := (blk_cell hb 11).trans rfl
  have hq12 : w.cell? ⟨q, 12, none⟩ = some (.slice A b.passed.length c) := (blk_cell hb 12).trans rfl
  have hq13 : w.cell? ⟨q, 13, none⟩ = some (.int .i64 b.last) := (blk_cell hb 13).trans rfl
  have f9 : w.frozen? ⟨q, 9, none⟩ = false := blk_frozen hb 9
  have f13 : w.frozen? ⟨q, 13, none⟩ = false := blk_frozen hb 13
  have cX := fun W => X.supercargoref06_Name.calls 110 x (nameB x) W (name_f x (by omega) 110 (by omega))
  cases hn : nameB x with
  | false =>
    rw [hn] at cX
    have hcode : Hid (doCode 2 x y day d b = 1) := by show _ = _; simp [doCode, payCode, chain, hn]
    clear hn
    go_enter Try.func25, Try.ntmps25
    go_wp2_with fail
    refine (cX _).mono ?_
    rintro e w' ⟨rfl, nd, rfl⟩
    go_wp2_with fail
    go_ret
    exact post_stay hcode (by decide) (by with_reducible repeat (first | exact Below.refl _ _ | apply pw_below_drewN | apply below_alloc)) h hlo
  | true =>
    rw [hn] at cX
    by_cases t2 : day < 0
    · have hd := dayB_lo t2
      have t2b : decide (day < 0) = true := decide_eq_true t2
      have hcode : Hid (doCode 2 x y day d b = 1) := by show _ = _; simp [doCode, payCode, chain, hn, hd]
      clear hn hd t2
      go_enter Try.func25, Try.ntmps25
      go_wp2_with fail
      refine (cX _).mono ?_
      rintro e w' ⟨rfl, nd, rfl⟩
      go_wp2_with fail
      go_ret
      exact post_stay hcode (by decide) (by with_reducible repeat (first | exact Below.refl _ _ | apply pw_below_drewN | apply below_alloc)) h hlo
    have t2b : decide (day < 0) = false := decide_eq_false t2
    by_cases t3 : 1048576 < day
    · have hd := dayB_hi t3
      have t3b : decide (1048576 < day) = true := decide_eq_true t3
      have hcode : Hid (doCode 2 x y day d b = 1) := by show _ = _; simp [doCode, payCode, chain, hn, hd]
      clear hn hd t2 t3
      go_enter Try.func25, Try.ntmps25
      go_wp2_with fail
      refine (cX _).mono ?_
      rintro e w' ⟨rfl, nd, rfl⟩
      go_wp2_with fail
      go_ret
      exact post_stay hcode (by decide) (by with_reducible repeat (first | exact Below.refl _ _ | apply pw_below_drewN | apply below_alloc)) h hlo
    have t3b : decide (1048576 < day) = false := decide_eq_false t3
    have hd := dayB_in t2 t3
    clear t2 t3
    by_cases t5 : day < b.last
    · have hl : decide (b.last ≤ day) = false := decide_eq_false (by omega)
      have t5b : decide (day < b.last) = true := decide_eq_true t5
      have hcode : Hid (doCode 2 x y day d b = 6) := by show _ = _; simp [doCode, payCode, chain, hn, hd, hl]
      clear hn hd hl t5
      go_enter Try.func25, Try.ntmps25
      go_wp2_with fail
      refine (cX _).mono ?_
      rintro e w' ⟨rfl, nd, rfl⟩
      go_wp2_with fail
      go_ret
      exact post_stay hcode (by decide) (by with_reducible repeat (first | exact Below.refl _ _ | apply pw_below_drewN | apply below_alloc)) h hlo
    have hl : decide (b.last ≤ day) = true := decide_eq_true (by omega)
    have t5b : decide (day < b.last) = false := decide_eq_false t5
    clear t5
    have hfour : b.state = 0 ∨ b.state = 1 ∨ b.state = 2 ∨ b.state = 3 := by omega
    rcases hfour with s0 | s0 | s0 | s0
    · rw [s0] at hq9
      by_cases k0 : d.kind = 0
      · rw [k0] at hq6
        by_cases xw : x.toList = d.drawee.toList
        · have xb : (x.toList == d.drawee.toList) = true := beq_iff_eq.2 xw
          have hcode : Hid (doCode 2 x y day d b = 0) := by show _ = _; simp [doCode, payCode, chain, hn, hd, hl, s0, k0, xb]
          have hsn : Hid (doSt 2 x y day d b = { b with state := 2, last := day }) := by show _ = _; have hq := hcode.out; unfold doCode at hq; simp at hq; unfold doSt; simp [paySt, hq]
          clear hn hd hl s0 k0 xw
          go_enter Try.func25, Try.ntmps25
          go_wp2_with fail
          refine (cX _).mono ?_
          rintro e w' ⟨rfl, nd, rfl⟩
          go_wp2_with fail
          go_quiet (fail)
          go_wp2_with fail
          go_ret
          exact ok_2 hcode hsn h hlo (by with_reducible repeat (first | exact Below.refl _ _ | apply pw_below_drewN | apply below_alloc))
        · have xb : (x.toList == d.drawee.toList) = false := beq_eq_false_iff_ne.2 xw
          have hcode : Hid (doCode 2 x y day d b = 8) := by show _ = _; simp [doCode, payCode, chain, hn, hd, hl, s0, k0, xb]
          clear hn hd hl s0 k0 xw
          go_enter Try.func25, Try.ntmps25
          go_wp2_with fail
          refine (cX _).mono ?_
          rintro e w' ⟨rfl, nd, rfl⟩
          go_wp2_with fail
          go_quiet (fail)
          go_wp2_with fail
          go_ret
          exact post_stay hcode (by decide) (by with_reducible repeat (first | exact Below.refl _ _ | apply pw_below_drewN | apply below_alloc)) h hlo
      · have k0b : (d.kind == 0) = false := by simp [k0]
        have hcode : Hid (doCode 2 x y day d b = 9) := by show _ = _; simp [doCode, payCode, chain, hn, hd, hl, s0, k0]
        clear hn hd hl s0 k0
        go_enter Try.func25, Try.ntmps25
        go_wp2_with fail
        refine (cX _).mono ?_
        rintro e w' ⟨rfl, nd, rfl⟩
        go_wp2_with fail
        go_quiet (fail)
        go_wp2_with fail
        go_ret
        exact post_stay hcode (by decide) (by with_reducible repeat (first | exact Below.refl _ _ | apply pw_below_drewN | apply below_alloc)) h hlo
    · rw [s0] at hq9
      by_cases xw : x.toList = d.drawee.toList
      · have xb : (x.toList == d.drawee.toList) = true := beq_iff_eq.2 xw
        have hcode : Hid (doCode 2 x y day d b = 0) := by show _ = _; simp [doCode, payCode, chain, hn, hd, hl, s0, xb]
        have hsn : Hid (doSt 2 x y day d b = { b with state := 2, last := day }) := by show _ = _; have hq := hcode.out; unfold doCode at hq; simp at hq; unfold doSt; simp [paySt, hq]
        clear hn hd hl s0 xw
        go_enter Try.func25, Try.ntmps25
        go_wp2_with fail
        refine (cX _).mono ?_
        rintro e w' ⟨rfl, nd, rfl⟩
        go_wp2_with fail
        go_quiet (fail)
        go_wp2_with fail
        go_ret
        exact ok_2 hcode hsn h hlo (by with_reducible repeat (first | exact Below.refl _ _ | apply pw_below_drewN | apply below_alloc))
      · have xb : (x.toList == d.drawee.toList) = false := beq_eq_false_iff_ne.2 xw
        have hcode : Hid (doCode 2 x y day d b = 8) := by show _ = _; simp [doCode, payCode, chain, hn, hd, hl, s0, xb]
        clear hn hd hl s0 xw
        go_enter Try.func25, Try.ntmps25
        go_wp2_with fail
        refine (cX _).mono ?_
        rintro e w' ⟨rfl, nd, rfl⟩
        go_wp2_with fail
        go_quiet (fail)
        go_wp2_with fail
        go_ret
        exact post_stay hcode (by decide) (by with_reducible repeat (first | exact Below.refl _ _ | apply pw_below_drewN | apply below_alloc)) h hlo
    · rw [s0] at hq9
      have hcode : Hid (doCode 2 x y day d b = 9) := by show _ = _; simp [doCode, payCode, chain, hn, hd, hl, s0]
      clear hn hd hl s0
      go_enter Try.func25, Try.ntmps25
      go_wp2_with fail
      refine (cX _).mono ?_
      rintro e w' ⟨rfl, nd, rfl⟩
      go_wp2_with fail
      go_quiet (fail)
      go_wp2_with fail
      go_ret
      exact post_stay hcode (by decide) (by with_reducible repeat (first | exact Below.refl _ _ | apply pw_below_drewN | apply below_alloc)) h hlo
    · rw [s0] at hq9
      have hlen : (liabB d b).length ≤ 903 := by have h1 := liab_length d b; have h2 : (liabB d b).length = (liabL d b).length := (by simp [liabB]); omega
      cases hin : Lib.containsS (liabB d b) x with
      | true =>
        have xb : Lib.containsS (liabB d b) x = true := hin
        have xbH := Lib.hid hin
        have hcode : Hid (doCode 2 x y day d b = 0) := by show _ = _; simp [doCode, payCode, chain, hn, hd, hl, s0, xb]
        have hsn : Hid (doSt 2 x y day d b = { b with state := 2, last := day }) := by show _ = _; have hq := hcode.out; unfold doCode at hq; simp at hq; unfold doSt; simp [paySt, hq]
        clear hn hd hl s0 xb hin
        go_enter Try.func25, Try.ntmps25
        go_wp2_with fail
        refine (cX _).mono ?_
        rintro e w' ⟨rfl, nd, rfl⟩
        go_wp2_with fail
        go_quiet (fail)
        go_wp2_with fail
        refine (RefLiable_any _ lo q d b (h.below (by with_reducible repeat (first | exact Below.refl _ _ | apply pw_below_drewN | apply below_alloc))) hp).mono ?_
        rintro e w5 ⟨v5, rfl, hR5, hB5⟩
        obtain ⟨A5, c5, rfl⟩ := Kd.R_slice hR5
        have cI := X.supercargoref38_in.calls 1000 A5 c5 (liabB d b) x (Lib.containsS (liabB d b) x) w5 (Kd.R_reads' hR5).2.2 (Kd.R_reads' hR5).2.1 (in_f _ _ (by omega) 1000 (by omega))
        rw [xbH.out] at cI
        replace hB5 := below_up (show Below w.heap.size w _ from (by with_reducible repeat (first | exact Below.refl _ _ | apply pw_below_drewN | apply below_alloc))) hB5
        have z0 := keepw hB5 hq9
        have z1 := keepw hB5 hq13
        have z2 : w5.heap[q]? = some (.cells (refCells d b A c) 53 (0, 0)) := blk_below hb hB5
        have y9 : w5.frozen? ⟨q, 9, none⟩ = false := blk_frozen z2 9
        have y13 : w5.frozen? ⟨q, 13, none⟩ = false := blk_frozen z2 13
        clear z2 hR5
        go_wp2_with fail
        refine cI.mono ?_
        rintro e w' ⟨rfl, nd3, rfl⟩
        go_wp2_with fail
        go_ret
        exact ok_2 hcode hsn h hlo (pw_below_drewN hB5 _)
      | false =>
        have xb : Lib.containsS (liabB d b) x = false := hin
        have xbH := Lib.hid hin
        have hcode : Hid (doCode 2 x y day d b = 8) := by show _ = _; simp [doCode, payCode, chain, hn, hd, hl, s0, xb]
        clear hn hd hl s0 xb hin
        go_enter Try.func25, Try.ntmps25
        go_wp2_with fail
        refine (cX _).mono ?_
        rintro e w' ⟨rfl, nd, rfl⟩
        go_wp2_with fail
        go_quiet (fail)
        go_wp2_with fail
        refine (RefLiable_any _ lo q d b (h.below (by with_reducible repeat (first | exact Below.refl _ _ | apply pw_below_drewN | apply below_alloc))) hp).mono ?_
        rintro e w5 ⟨v5, rfl, hR5, hB5⟩
        obtain ⟨A5, c5, rfl⟩ := Kd.R_slice hR5
        have cI := X.supercargoref38_in.calls 1000 A5 c5 (liabB d b) x (Lib.containsS (liabB d b) x) w5 (Kd.R_reads' hR5).2.2 (Kd.R_reads' hR5).2.1 (in_f _ _ (by omega) 1000 (by omega))
        rw [xbH.out] at cI
        replace hB5 := below_up (show Below w.heap.size w _ from (by with_reducible repeat (first | exact Below.refl _ _ | apply pw_below_drewN | apply below_alloc))) hB5
        have z0 := keepw hB5 hq9
        have z1 := keepw hB5 hq13
        have z2 : w5.heap[q]? = some (.cells (refCells d b A c) 53 (0, 0)) := blk_below hb hB5
        have y9 : w5.frozen? ⟨q, 9, none⟩ = false := blk_frozen z2 9
        have y13 : w5.frozen? ⟨q, 13, none⟩ = false := blk_frozen z2 13
        clear z2 hR5
        go_wp2_with fail
        refine cI.mono ?_
        rintro e w' ⟨rfl, nd3, rfl⟩
        go_wp2_with fail
        go_ret
        exact post_stay hcode (by decide) (pw_below_drewN hB5 _) h hlo
set_option maxHeartbeats 16000000 in
set_option maxRecDepth 100000 in
theorem RefDo3 (x y : ByteArray) (day : Int) (hx : x.size ≤ 100) (_hy : y.size ≤ 100) (w : World) (lo q : Nat) (d : Dr) (b : St) (h : IsRef w lo q d b) (_hp : b.passed.length ≤ 900) (hst : 0 ≤ b.state ∧ b.state ≤ 3) (hlo : lo ≤ w.heap.size) :
    Calls Try.prog 25 #[pt0 q, .int .i64 3, .string x, .string y, .int .i64 day] w (RefPost 3 x y day lo q d b w) := by
  obtain ⟨A, c, hb, hR⟩ := h.out
  have hq2 : w.cell? ⟨q, 2, none⟩ = some (.string d.drawee) := (blk_cell hb 2).trans rfl
  have hq6 : w.cell? ⟨q, 6, none⟩ = some (.int .i64 d.kind) := (blk_cell hb 6).trans rfl
  have hq9 : w.cell? ⟨q, 9, none⟩ = some (.int .i64 b.state) := (blk_cell hb 9).trans rfl
  have hq10 : w.cell? ⟨q, 10, none⟩ = some (.bool b.acc) := (blk_cell hb 10).trans rfl
  have hq11 : w.cell? ⟨q, 11, none⟩ = some (.string b.holder) := (blk_cell hb 11).trans rfl
  have hq12 : w.cell? ⟨q, 12, none⟩ = some (.slice A b.passed.length c) := (blk_cell hb 12).trans rfl
  have hq13 : w.cell? ⟨q, 13, none⟩ = some (.int .i64 b.last) := (blk_cell hb 13).trans rfl
  have f9 : w.frozen? ⟨q, 9, none⟩ = false := blk_frozen hb 9
  have f13 : w.frozen? ⟨q, 13, none⟩ = false := blk_frozen hb 13
  have cX := fun W => X.supercargoref06_Name.calls 110 x (nameB x) W (name_f x (by omega) 110 (by omega))
  cases hn : nameB x with
  | false =>
    rw [hn] at cX
    have hcode : Hid (doCode 3 x y day d b = 1) := by show _ = _; simp [doCode, holdCode, chain, hn]
    clear hn
    go_enter Try.func25, Try.ntmps25
    go_wp2_with fail
    refine (cX _).mono ?_
    rintro e w' ⟨rfl, nd, rfl⟩
    go_wp2_with fail
    go_ret
    exact post_stay hcode (by decide) (by with_reducible repeat (first | exact Below.refl _ _ | apply pw_below_drewN | apply below_alloc)) h hlo
  | true =>
    rw [hn] at cX
    by_cases t2 : day < 0
    · have hd := dayB_lo t2
      have t2b : decide (day < 0) = true := decide_eq_true t2
      have hcode : Hid (doCode 3 x y day d b = 1) := by show _ = _; simp [doCode, holdCode, chain, hn, hd]
      clear hn hd t2
      go_enter Try.func25, Try.ntmps25
      go_wp2_with fail
      refine (cX _).mono ?_
      rintro e w' ⟨rfl, nd, rfl⟩
      go_wp2_with fail
      go_ret
      exact post_stay hcode (by decide) (by with_reducible repeat (first | exact Below.refl _ _ | apply pw_below_drewN | apply below_alloc)) h hlo
    have t2b : decide (day < 0) = false := decide_eq_false t2
    by_cases t3 : 1048576 < day
    · have hd := dayB_hi t3
      have t3b : decide (1048576 < day) = true := decide_eq_true t3
      have hcode : Hid (doCode 3 x y day d b = 1) := by show _ = _; simp [doCode, holdCode, chain, hn, hd]
      clear hn hd t2 t3
      go_enter Try.func25, Try.ntmps25
      go_wp2_with fail
      refine (cX _).mono ?_
      rintro e w' ⟨rfl, nd, rfl⟩
      go_wp2_with fail
      go_ret
      exact post_stay hcode (by decide) (by with_reducible repeat (first | exact Below.refl _ _ | apply pw_below_drewN | apply below_alloc)) h hlo
    have t3b : decide (1048576 < day) = false := decide_eq_false t3
    have hd := dayB_in t2 t3
    clear t2 t3
    by_cases t5 : day < b.last
    · have hl : decide (b.last ≤ day) = false := decide_eq_false (by omega)
      have t5b : decide (day < b.last) = true := decide_eq_true t5
      have hcode : Hid (doCode 3 x y day d b = 6) := by show _ = _; simp [doCode, holdCode, chain, hn, hd, hl]
      clear hn hd hl t5
      go_enter Try.func25, Try.ntmps25
      go_wp2_with fail
      refine (cX _).mono ?_
      rintro e w' ⟨rfl, nd, rfl⟩
      go_wp2_with fail
      go_ret
      exact post_stay hcode (by decide) (by with_reducible repeat (first | exact Below.refl _ _ | apply pw_below_drewN | apply below_alloc)) h hlo
    have hl : decide (b.last ≤ day) = true := decide_eq_true (by omega)
    have t5b : decide (day < b.last) = false := decide_eq_false t5
    clear t5
    by_cases s1 : b.state ≤ 1
    · have s1c := c01_t hst.1 s1
      have s1b : decide (b.state ≤ 1) = true := decide_eq_true s1
      clear s1
      by_cases xw : x.toList = b.holder.toList
      · have xb : (x.toList == b.holder.toList) = true := beq_iff_eq.2 xw
        have hcode : Hid (doCode 3 x y day d b = 0) := by show _ = _; unfold doCode holdCode; simp only [s1c]; simp [chain, hn, hd, hl, xb]
        have hsn : Hid (doSt 3 x y day d b = { b with state := 3, last := day }) := by show _ = _; have hq := hcode.out; unfold doCode at hq; simp at hq; unfold doSt; simp [protestSt, hq]
        clear hn hd hl s1c xw
        go_enter Try.func25, Try.ntmps25
        go_wp2_with fail
        refine (cX _).mono ?_
        rintro e w' ⟨rfl, nd, rfl⟩
        go_wp2_with fail
        go_quiet (fail)
        go_wp2_with fail
        go_ret
        exact ok_3 hcode hsn h hlo (by with_reducible repeat (first | exact Below.refl _ _ | apply pw_below_drewN | apply below_alloc))
      · have xb : (x.toList == b.holder.toList) = false := beq_eq_false_iff_ne.2 xw
        have hcode : Hid (doCode 3 x y day d b = 8) := by show _ = _; unfold doCode holdCode; simp only [s1c]; simp [chain, hn, hd, hl, xb]
        clear hn hd hl s1c xw
        go_enter Try.func25, Try.ntmps25
        go_wp2_with fail
        refine (cX _).mono ?_
        rintro e w' ⟨rfl, nd, rfl⟩
        go_wp2_with fail
        go_quiet (fail)
        go_wp2_with fail
        go_ret
        exact post_stay hcode (by decide) (by with_reducible repeat (first | exact Below.refl _ _ | apply pw_below_drewN | apply below_alloc)) h hlo
    · have s1c := c01_f s1
      have s1b : decide (b.state ≤ 1) = false := decide_eq_false s1
      clear s1
      have hcode : Hid (doCode 3 x y day d b = 9) := by show _ = _; unfold doCode holdCode; simp only [s1c]; simp [chain, hn, hd, hl]
      clear hn hd hl s1c
      go_enter Try.func25, Try.ntmps25
      go_wp2_with fail
      refine (cX _).mono ?_
      rintro e w' ⟨rfl, nd, rfl⟩
      go_wp2_with fail
      go_quiet (fail)
      go_wp2_with fail
      go_ret
      exact post_stay hcode (by decide) (by with_reducible repeat (first | exact Below.refl _ _ | apply pw_below_drewN | apply below_alloc)) h hlo
theorem RefDo_any (call : Int) (h0 : 0 ≤ call) (h3 : call ≤ 3) (x y : ByteArray) (day : Int) (hx : x.size ≤ 100) (hy : y.size ≤ 100) (w : World) (lo q : Nat) (d : Dr) (b : St) (h : IsRef w lo q d b) (hp : b.passed.length ≤ 900) (hst : 0 ≤ b.state ∧ b.state ≤ 3) (hlo : lo ≤ w.heap.size) :
    Calls Try.prog 25 #[pt0 q, .int .i64 call, .string x, .string y, .int .i64 day] w (RefPost call x y day lo q d b w) := by
  have hc : call = 0 ∨ call = 1 ∨ call = 2 ∨ call = 3 := by omega
  rcases hc with rfl | rfl | rfl | rfl
  · exact RefDo0 x y day hx hy w lo q d b h hp hst hlo
  · exact RefDo1 x y day hx hy w lo q d b h hp hst hlo
  · exact RefDo2 x y day hx hy w lo q d b h hp hst hlo
  · exact RefDo3 x y day hx hy w lo q d b h hp hst hlo
end Go.Proofs.Ytcmjgkmnbenniaa.Ext
