/- The document's bill in memory: New, Liable. Written by wip/refbill.py. -/
import Derived.Test.YtcmjgkmnbenniaaOwed
namespace Go.Proofs.Ytcmjgkmnbenniaa.Ext
open Go.RowKit Go.Maps Go.WideMaps Go.Proofs.YtcmjgkmnbenniaaW.PrintWords Go.Proofs.YtcmjgkmnbenniaaW.PrintLast
def refCells (d : Dr) (b : St) (A : Option Addr) (c : Nat) : Array Value := #[.string d.num, .string d.drawer, .string d.drawee, .string d.payee, .string d.cur, .int .i64 d.amt, .int .i64 d.kind, .int .i64 d.days, .int .i64 d.frm, .int .i64 b.state, .bool b.acc, .string b.holder, .slice A b.passed.length c, .int .i64 b.last]
/-- Block q holds the document's bill; the texts of those who passed it on lie in a row that nobody writes. -/
structure IsRef (w : World) (lo q : Nat) (d : Dr) (b : St) : Prop where
  out : ∃ A c, w.heap[q]? = some (.cells (refCells d b A c) 53 (0, 0)) ∧ Kd.R Kd.string 9 w lo (fun _ => True) (.slice A b.passed.length c) b.passed
  lo : lo ≤ q
/-- Blocks that hold no texts of a slice. -/
def NoTexts (w : World) (S : Nat → Prop) : Prop := ∀ k, S k → ∀ cells, w.heap[k]? ≠ some (.cells cells 9 (0, 0))
theorem R_far_texts {w w' : World} {lo : Nat} {v : Value} {L : List ByteArray} {S : Nat → Prop} (h : Kd.R Kd.string 9 w lo (fun _ => True) v L) (hk : Kept w w' S) (hS : NoTexts w S) : Kd.R Kd.string 9 w' lo (fun _ => True) v L := by
  have h1 := Kd.R_kept (Kd.R_bound h) hk (fun k hk1 hs => by
    obtain ⟨_, _, _, q, hq, cells, hc⟩ := hk1
    rcases List.mem_cons.1 hq with rfl | hq
    · exact hS k hs cells hc
    · exact absurd hq (by simp [Kd.string, Kd.scalar]))
  exact Kd.R_mono h1 fun _ _ => trivial
theorem IsRef.kept {w w' : World} {lo q : Nat} {d : Dr} {b : St} {S : Nat → Prop} (h : IsRef w lo q d b) (hk : Kept w w' S) (hq : ¬ S q) (hS : NoTexts w S) : IsRef w' lo q d b := by
  obtain ⟨A, c, hb, hR⟩ := h.out
  exact ⟨⟨A, c, blk_kept hb hk hq, R_far_texts hR hk hS⟩, h.lo⟩
theorem IsRef.below {w w' : World} {lo q : Nat} {d : Dr} {b : St} (h : IsRef w lo q d b) (hb : Below w.heap.size w w') : IsRef w' lo q d b :=
  h.kept (Kept.of_below hb (fun _ => False)) (fun h => h) (fun _ h => h.elim)
theorem IsRef.lt {w : World} {lo q : Nat} {d : Dr} {b : St} (h : IsRef w lo q d b) : q < w.heap.size := by
  obtain ⟨A, c, hb, _⟩ := h.out
  exact blk_lt hb
theorem IsBill.noTexts {w : World} {lo g m : Nat} {d : Dr} {b : St} (h : IsBill w lo g m d b) : NoTexts w (fun k => k = g ∨ k = m) := by
  rintro k (rfl | rfl) cells hc
  · have := h.blk.symm.trans hc
    simp only [Option.some.injEq, Obj.cells.injEq] at this
    exact absurd this.2.1 (by decide)
  · obtain ⟨es, clock, hb, _⟩ := h.own
    have := hb.symm.trans hc
    simp at this
theorem IsRef.noTexts {w : World} {lo q : Nat} {d : Dr} {b : St} (h : IsRef w lo q d b) : NoTexts w (fun k => k = q) := by
  rintro k rfl cells hc
  obtain ⟨A, c, hb, _⟩ := h.out
  have := hb.symm.trans hc
  simp only [Option.some.injEq, Obj.cells.injEq] at this
  exact absurd this.2.1 (by decide)
theorem IsRef.ne {w : World} {lo lo' q g m : Nat} {d d' : Dr} {b b' : St} (h : IsRef w lo q d b) (h' : IsBill w lo' g m d' b') : q ≠ g ∧ q ≠ m := by
  obtain ⟨A, c, hb, _⟩ := h.out
  constructor
  · rintro rfl
    have := h'.blk.symm.trans hb
    simp only [Option.some.injEq, Obj.cells.injEq] at this
    exact absurd this.2.1 (by decide)
  · rintro rfl
    obtain ⟨es, clock, hm, _⟩ := h'.own
    have := hm.symm.trans hb
    simp at this
/-! ### Liable -/
set_option maxRecDepth 100000 in
theorem infoStr : (Try.prog.info? 9).map (fun i => (i.zero, i.size, i.bytes)) = some (some (.string ⟨#[]⟩), 1, 16) := by kernel_rfl
theorem app_step {ops : Array Oper} {o : Oper} {a : Act} {Q : Exit → Act → World → Prop} {Kc : Act → World → Prop} {w0 W : World} (base : Nat) (hw : Region.wanted o (yielded ops a.tmps) = true) (s x : Operand)
    (ho : o.op = .call { callee := .builtin .append, args := #[s, x], argTypes := #[26, 26] }) (v : Value) (xs ys : List ByteArray) (A : Option Addr) (m c : Nat) (ok : Nat → Prop) (hs : a.eval s = v) (hx : a.eval x = .slice A m c)
    (HO : Kd.R Kd.string 9 W base ok v xs) (HR : Kd.C Kd.string W A m ys) (hfresh : ∀ k, W.heap.size ≤ k → ok k) (HB : Below base w0 W) (hbase : base ≤ W.heap.size) (hl : xs.length + m ≤ 3000)
    (h : ∀ v1 w1, Kd.R Kd.string 9 w1 base ok v1 (xs ++ ys) → Below base w0 w1 → W.grownBy w1 v.ownBlock → (v1.ownBlock = v.ownBlock ∨ ∃ b, v1.ownBlock = some b ∧ W.heap.size ≤ b) → Kc (a.put o.dst v1) w1) :
    if Region.wanted o (yielded ops a.tmps) = true then Oper.wp Try.prog o a W Kc Q else Kc (a.put o.dst undef) W :=
  Kd.R_append_rows_step Kd.string (Rr := Kd.string.K W) base hw s x 26 9 (.string ⟨#[]⟩) 16 ho Try.underlying26 infoStr rfl (by decide) (by decide) v xs ys A m c ok (fun _ => False) hs hx HO HR (fun _ _ h => h) (fun _ h => h.elim) hfresh HB hbase (by omega) h
theorem Kd_lit {W : World} {k : Nat} {t : ByteArray} (h : W.heap[k]? = some (.cells #[.string t] 9 (0, 0))) : Kd.C Kd.string W (some ⟨k, 0, none⟩) 1 [t] := by
  refine ⟨rfl, by decide, fun _ => ⟨_, rfl, fun j p hj => ⟨[.string p], rfl, rfl, fun i u hu => ?_⟩⟩⟩
  have hj0 : j = 0 := by have := (List.getElem?_eq_some_iff.1 hj).1; simp at this; omega
  have hi0 : i = 0 := by have := (List.getElem?_eq_some_iff.1 hu).1; simp at this; omega
  subst hj0
  subst hi0
  obtain rfl : t = p := by simpa using hj
  obtain rfl : Value.string t = u := by simpa using hu
  exact (blk_cell h 0).trans rfl
/-- All but the holder, put one by one. -/
def putAllB (h : ByteArray) (L : List ByteArray) : List ByteArray := L.foldl (fun o s => if s.toList != h.toList then putB s o else o) []
theorem putAllB_snoc (h : ByteArray) (L : List ByteArray) (s : ByteArray) : putAllB h (L ++ [s]) = if s.toList != h.toList then putB s (putAllB h L) else putAllB h L := by
  unfold putAllB
  rw [List.foldl_append]
  rfl
theorem snoc_ind {α : Type} {p : List α → Prop} (h0 : p []) (h1 : ∀ L s, p L → p (L ++ [s])) (L : List α) : p L := by
  have : ∀ n (L : List α), L.length = n → p L := by
    intro n
    induction n with
    | zero => intro L h; rw [List.length_eq_zero_iff.1 h]; exact h0
    | succ n ih =>
      intro L h
      have hne : L ≠ [] := by intro e; simp [e] at h
      rw [← List.dropLast_concat_getLast hne]
      exact h1 _ _ (ih _ (by simp [h]))
  exact this _ L rfl
theorem putAllB_length (h : ByteArray) (L : List ByteArray) : (putAllB h L).length ≤ L.length := by
  refine snoc_ind (p := fun L => (putAllB h L).length ≤ L.length) (by simp [putAllB]) (fun L s ih => ?_) L
  rw [putAllB_snoc]
  have := putB_length s (putAllB h L)
  split <;> simp <;> omega
theorem putAllB_sorted (h : ByteArray) (L : List ByteArray) : ((putAllB h L).map bl).Pairwise (· < ·) := by
  refine snoc_ind (p := fun L => ((putAllB h L).map bl).Pairwise (· < ·)) (by simp [putAllB]) (fun L s ih => ?_) L
  rw [putAllB_snoc]
  split
  · exact putB_sorted _ _ ih
  · exact ih
theorem putAllB_mem (h : ByteArray) (x : List UInt8) (L : List ByteArray) : x ∈ (putAllB h L).map bl ↔ x ≠ bl h ∧ x ∈ L.map bl := by
  refine snoc_ind (p := fun L => x ∈ (putAllB h L).map bl ↔ x ≠ bl h ∧ x ∈ L.map bl) (by simp [putAllB]) (fun L s ih => ?_) L
  rw [putAllB_snoc]
  by_cases c : s.toList = h.toList
  · rw [if_neg (by simp [c]), ih, List.map_append, List.mem_append, List.map_cons, List.map_nil, List.mem_singleton]
    rw [ByteArray.toList_eq, ByteArray.toList_eq] at c
    constructor
    · rintro ⟨h1, h2⟩; exact ⟨h1, .inl h2⟩
    · rintro ⟨h1, h2 | h2⟩
      · exact ⟨h1, h2⟩
      · exact absurd (h2.trans c) h1
  · rw [if_pos (by simp [c]), putB_mem, ih, List.map_append, List.mem_append, List.map_cons, List.map_nil, List.mem_singleton]
    rw [ByteArray.toList_eq, ByteArray.toList_eq] at c
    constructor
    · rintro (h1 | ⟨h1, h2⟩)
      · exact ⟨fun e => c (h1.symm.trans e), .inr h1⟩
      · exact ⟨h1, .inl h2⟩
    · rintro ⟨h1, h2 | h2⟩
      · exact .inr ⟨h1, h2⟩
      · exact .inl h2
/-- All who may be liable. -/
def whoB (d : Dr) (b : St) : List ByteArray := if b.acc = true then b.passed ++ [d.drawer] ++ [d.drawee] else b.passed ++ [d.drawer]
theorem putAllB_eq {d : Dr} {b : St} (hs : b.state ≠ 2) : putAllB b.holder (whoB d b) = liabB d b := by
  have e : liabL d b = (putAllB b.holder (whoB d b)).map bl := by
    refine liabL_eq d b _ (putAllB_sorted _ _) fun x => ?_
    rw [putAllB_mem]
    constructor
    · rintro ⟨h1, h2⟩
      refine ⟨hs, h1, ?_⟩
      unfold whoB at h2
      by_cases ha : b.acc = true
      · rw [if_pos ha] at h2
        simp only [List.map_append, List.mem_append, List.mem_map, List.map_cons, List.map_nil, List.mem_singleton] at h2
        rcases h2 with (h2 | h2) | h2
        · exact .inl h2
        · exact .inr (.inl h2)
        · exact .inr (.inr ⟨ha, h2⟩)
      · rw [if_neg ha] at h2
        simp only [List.map_append, List.mem_append, List.mem_map, List.map_cons, List.map_nil, List.mem_singleton] at h2
        rcases h2 with h2 | h2
        · exact .inl h2
        · exact .inr (.inl h2)
    · rintro ⟨_, h1, h2⟩
      refine ⟨h1, ?_⟩
      unfold whoB
      by_cases ha : b.acc = true
      · rw [if_pos ha]
        simp only [List.map_append, List.mem_append, List.mem_map, List.map_cons, List.map_nil, List.mem_singleton]
        rcases h2 with h2 | h2 | ⟨_, h2⟩
        · exact .inl (.inl h2)
        · exact .inl (.inr h2)
        · exact .inr h2
      · rw [if_neg ha]
        simp only [List.map_append, List.mem_append, List.mem_map, List.map_cons, List.map_nil, List.mem_singleton]
        rcases h2 with h2 | h2 | ⟨h3, _⟩
        · exact .inl h2
        · exact .inr h2
        · exact absurd h3 ha
  unfold liabB
  rw [e, List.map_map]
  conv => lhs; rw [← List.map_id (putAllB b.holder (whoB d b))]
  exact List.map_congr_left fun t _ => rfl
/-- What the document's Liable answers: a row of its own. -/
def LiabPost (d : Dr) (b : St) (w : World) (e : Ending) (w' : World) : Prop := ∃ v, e = .returned v ∧ Kd.R Kd.string 9 w' w.heap.size (fun _ => True) v (liabB d b) ∧ Below w.heap.size w w'
set_option maxHeartbeats 16000000 in
set_option maxRecDepth 100000 in
theorem RefLiable_any (w : World) (lo q : Nat) (d : Dr) (b : St) (h : IsRef w lo q d b) (hp : b.passed.length ≤ 900) :
    Calls Try.prog 44 #[pt0 q] w (LiabPost d b w) := by
  have h' := h
  obtain ⟨A, c, hb, hR⟩ := h'.out
  have hq1 : w.cell? ⟨q, 1, none⟩ = some (.string d.drawer) := (blk_cell hb 1).trans rfl
  have hq2 : w.cell? ⟨q, 2, none⟩ = some (.string d.drawee) := (blk_cell hb 2).trans rfl
  have hq9 : w.cell? ⟨q, 9, none⟩ = some (.int .i64 b.state) := (blk_cell hb 9).trans rfl
  have hq10 : w.cell? ⟨q, 10, none⟩ = some (.bool b.acc) := (blk_cell hb 10).trans rfl
  have hq11 : w.cell? ⟨q, 11, none⟩ = some (.string b.holder) := (blk_cell hb 11).trans rfl
  have hq12 : w.cell? ⟨q, 12, none⟩ = some (.slice A b.passed.length c) := (blk_cell hb 12).trans rfl
  have hx_ : Below w.heap.size w (w.alloc (.cells #[] 9)) := below_alloc (Below.refl _ _) _
  have R3 := lit_row w [] (by simp)
  simp only [List.map_nil, List.length_nil] at R3
  by_cases hs : b.state = 2
  · have hnil : Hid (liabB d b = []) := liabB_nil hs
    rw [hs] at hq9
    replace hq9 := keepc hx_ hq9
    clear hs
    go_enter Try.func44, Try.ntmps44
    go_wp2_with fail
    go_ret
    exact ⟨_, rfl, by rw [hnil.out]; exact Kd.R_mono R3 (fun _ _ => trivial), hx_⟩
  · have hsb : (b.state == 2) = false := by simp [hs]
    have hOut : Hid (putAllB b.holder (whoB d b) = liabB d b) := putAllB_eq hs
    clear hs
    replace hq9 := keepc hx_ hq9
    go_enter Try.func44, Try.ntmps44
    go_wp2_with fail
    have hCW0 := Kd.C_below ((Kd.R_reads' hR).2.2) hx_
    have hBW0 := hx_
    replace hq1 := keepc hx_ hq1
    replace hq12 := keepc hx_ hq12
    have hNW : w.heap.size < (w.alloc (.cells #[] 9)).heap.size := by simp
    generalize w.alloc (.cells #[] 9) = W at hCW0 hBW0 R3 hq1 hq12 hNW hx_ ⊢
    refine start_ (n := 14) (S := fun w' => w'.cell? ⟨q, 1, none⟩ = some (.string d.drawer) ∧ w'.cell? ⟨q, 12, none⟩ = some (.slice A b.passed.length c)) (ds := []) #[false, false, false, false, false, false, false, false, false, false, false, false, false, false] (by kernel_rfl) rfl rfl ?_ (fun hHeld => ?_)
    · exact ⟨hq1, hq12⟩
    have hCW : Kd.C Kd.string W.drew A b.passed.length b.passed := Kd.C_below hCW0 (below_drew (Below.refl _ _))
    have hBW : Below w.heap.size w W.drew := below_drew hBW0
    have hW02 : Below W.heap.size W W.drew := below_drew (Below.refl _ _)
    generalize W.drew = W0 at hHeld hCW hBW hW02 ⊢
    have hH0 := hHeld
    refine take_ (i := 1) (N := some 14) (v := ?_) (a' := ?_) #[false, true, false, false, false, false, false, false, false, false, false, false, false, false] rfl rfl (by kernel_rfl) (fun _ _ _ h => h) (Or.inl ⟨by rfl, ?_⟩) hHeld ?_ ?_
    rotate_left
    · rintro w' ⟨s0, s1⟩
      go_simp
      with_reducible rfl
    rotate_left
    · simp only [Act.put, List.setIfInBounds_toArray, List.set_cons_zero, List.set_cons_succ]
      rfl
    refine take_ (i := 2) (N := some 15) (v := ?_) (a' := ?_) #[false, true, true, false, false, false, false, false, false, false, false, false, false, false] rfl rfl (by kernel_rfl) (fun _ _ _ h => h) (Or.inl ⟨by rfl, ?_⟩) hHeld ?_ ?_
    rotate_left
    · rintro w' ⟨s0, s1⟩
      go_simp
      with_reducible rfl
    rotate_left
    · simp only [Act.put, List.setIfInBounds_toArray, List.set_cons_zero, List.set_cons_succ]
      rfl
    refine take_ (i := 3) (N := some 16) (v := ?_) (a' := ?_) #[false, true, true, true, false, false, false, false, false, false, false, false, false, false] rfl rfl (by kernel_rfl) (fun _ _ _ h => h) (Or.inl ⟨by rfl, ?_⟩) hHeld ?_ ?_
    rotate_left
    · rintro w' ⟨s0, s1⟩
      go_simp
      with_reducible rfl
    rotate_left
    · simp only [Act.put, List.setIfInBounds_toArray, List.set_cons_zero, List.set_cons_succ]
      rfl
    refine take_ (i := 4) (N := some 17) (v := ?_) (a' := ?_) #[false, true, true, true, true, false, false, false, false, false, false, false, false, false] rfl rfl (by kernel_rfl) (fun _ _ _ h => h) (Or.inl ⟨by rfl, ?_⟩) hHeld ?_ ?_
    rotate_left
    · rintro w' ⟨s0, s1⟩
      go_simp
      with_reducible rfl
    rotate_left
    · simp only [Act.put, List.setIfInBounds_toArray, List.set_cons_zero, List.set_cons_succ]
      rfl
    refine take_ (i := 6) (N := some 19) (v := ?_) (a' := ?_) #[false, true, true, true, true, false, true, false, false, false, false, false, false, false] rfl rfl (by kernel_rfl) (fun _ _ _ h => h) (Or.inl ⟨by rfl, ?_⟩) hHeld ?_ ?_
    rotate_left
    · rintro w' ⟨s0, s1⟩
      go_simp
      with_reducible rfl
    rotate_left
    · simp only [Act.put, List.setIfInBounds_toArray, List.set_cons_zero, List.set_cons_succ]
      rfl
    refine take_ (i := 7) (N := some 20) (v := ?_) (a' := ?_) #[false, true, true, true, true, false, true, true, false, false, false, false, false, false] rfl rfl (by kernel_rfl) (fun _ _ _ h => h) (Or.inl ⟨by rfl, ?_⟩) hHeld ?_ ?_
    rotate_left
    · rintro w' ⟨s0, s1⟩
      go_simp
      with_reducible rfl
    rotate_left
    · simp only [Act.put, List.setIfInBounds_toArray, List.set_cons_zero, List.set_cons_succ]
      rfl
    refine take_ (i := 8) (N := some 21) (v := ?_) (a' := ?_) #[false, true, true, true, true, false, true, true, true, false, false, false, false, false] rfl rfl (by kernel_rfl) (fun _ _ _ h => h) (Or.inl ⟨by rfl, ?_⟩) hHeld ?_ ?_
    rotate_left
    · rintro w' ⟨s0, s1⟩
      go_simp
      with_reducible rfl
    rotate_left
    · simp only [Act.put, List.setIfInBounds_toArray, List.set_cons_zero, List.set_cons_succ]
      rfl
    refine take_ (i := 9) (N := some 22) (v := ?_) (a' := ?_) #[false, true, true, true, true, false, true, true, true, true, false, false, false, false] rfl rfl (by kernel_rfl) (fun _ _ _ h => h) (Or.inl ⟨by rfl, ?_⟩) hHeld ?_ ?_
    rotate_left
    · rintro w' ⟨s0, s1⟩
      go_simp
      with_reducible rfl
    rotate_left
    · simp only [Act.put, List.setIfInBounds_toArray, List.set_cons_zero, List.set_cons_succ]
      rfl
    refine take_ (i := 10) (N := some 23) (v := ?_) (a' := ?_) #[false, true, true, true, true, false, true, true, true, true, true, false, false, false] rfl rfl (by kernel_rfl) (fun _ _ _ h => h) (Or.inl ⟨by rfl, ?_⟩) hHeld ?_ ?_
    rotate_left
    · rintro w' ⟨s0, s1⟩
      go_simp
      with_reducible rfl
    rotate_left
    · simp only [Act.put, List.setIfInBounds_toArray, List.set_cons_zero, List.set_cons_succ]
      rfl
    refine join_ (σ := Value × Value × Nat) 2 #[true, true, true, true, true, true, true, true, true, true, true, true, false, false] (fun s_ => [(13, s_.1), (18, s_.2.1), (24, .slice (some ⟨s_.2.2, 0, none⟩) 1 1)]) (fun s_ w' => Kd.R Kd.string 9 w' W0.heap.size (fun k => k ≠ s_.2.2) s_.2.1 b.passed ∧ w'.heap[s_.2.2]? = some (.cells #[.string d.drawer] 9 (0, 0)) ∧ Below W0.heap.size W0 w' ∧ W0.heap.size ≤ s_.2.2) ?_ ?_
    rotate_left
    · intro hCont
      have HB00 : Below W0.heap.size W0 W0 := Below.refl _ _
      refine two_ (i := 0) (j := 11) (Ni := some 13) (Nj := some 24) #[true, true, true, true, true, false, true, true, true, true, true, false, false, false] #[false, true, true, true, true, false, true, true, true, true, true, true, false, false] rfl rfl rfl rfl (by kernel_rfl) (by decide) (by decide) (fun K hK => ?_) (fun K hK => ?_)
      · refine value_ (by rfl) rfl (by go_simp; first | done | exact ⟨rfl, rfl⟩ | rfl) ?_
        have hx_ : Below W0.heap.size W0 (W0.alloc (.cells #[] 9)) := below_alloc (Below.refl _ _) _
        have R13 := lit_row W0 [] (by simp)
        simp only [List.map_nil, List.length_nil] at R13
        have HBa : Below W0.heap.size W0 (W0.alloc (.cells #[] 9)) := below_up HB00 hx_
        have hszWa : W0.heap.size < (W0.alloc (.cells #[] 9)).heap.size := by simp
        generalize hgWa : W0.alloc (.cells #[] 9) = Wa at R13 hx_ HBa hszWa ⊢
        refine hK.out _ _ ⟨keepc HBa hH0.1, keepc HBa hH0.2⟩ (fun hHeld => ?_)
        clear hK K
        refine norm_ (a' := ?_) ?_ ?_
        rotate_left
        · show Act.put _ (some 13) _ = _
          simp only [Act.put, List.setIfInBounds_toArray, List.set_cons_zero, List.set_cons_succ]
          rfl
        refine two_ (i := 5) (j := 11) (Ni := some 18) (Nj := some 24) #[true, true, true, true, true, true, true, true, true, true, true, false, false, false] #[true, true, true, true, true, false, true, true, true, true, true, true, false, false] rfl rfl rfl rfl (by kernel_rfl) (by decide) (by decide) (fun K hK => ?_) (fun K hK => ?_)
        · refine app_step (w0 := W0) W0.heap.size (by rfl) (.tmp 13) (.tmp 17) rfl _ [] b.passed A b.passed.length c (fun _ => True) rfl rfl (by exact Kd.R_mono R13 (fun _ _ => trivial)) (Kd.C_below hCW HBa) (by exact fun _ _ => trivial) HBa HBa.size (by simp; omega) ?_
          rintro v18 Wq R18 HBq hgr hat
          rw [List.nil_append] at R18
          refine hK.out _ _ ⟨keepc HBq hH0.1, keepc HBq hH0.2⟩ (fun hHeld => ?_)
          clear hK K
          refine norm_ (a' := ?_) ?_ ?_
          rotate_left
          · show Act.put _ (some 18) _ = _
            simp only [Act.put, List.setIfInBounds_toArray, List.set_cons_zero, List.set_cons_succ]
            rfl
          refine one_ (i := 11) (N := some 24) #[true, true, true, true, true, true, true, true, true, true, true, true, false, false] rfl rfl (by kernel_rfl) (by decide) (fun K hK => ?_)
          refine value_ (by rfl) rfl (by go_simp; first | done | exact ⟨rfl, rfl⟩ | rfl) ?_
          have hy_ : Below Wq.heap.size Wq (Wq.alloc (.cells #[.string d.drawer] 9)) := below_alloc (Below.refl _ _) _
          have hblk := blk_new Wq (.cells #[.string d.drawer] 9)
          have HBc : Below W0.heap.size W0 (Wq.alloc (.cells #[.string d.drawer] 9)) := below_up HBq hy_
          generalize hgWc : Wq.alloc (.cells #[.string d.drawer] 9) = Wc at hblk hy_ HBc ⊢
          have R18c := Kd.R_mono (Kd.R_below (Kd.R_elderB R18 Wq.heap.size (Nat.le_refl _)) hy_) (fun k hk => hk.2)
          refine hK.out _ _ ⟨keepc HBc hH0.1, keepc HBc hH0.2⟩ (fun hHeld => ?_)
          exact norm_ (by simp only [putAll, Act.put, List.setIfInBounds_toArray, List.set_cons_zero, List.set_cons_succ]) (hCont (.slice (some ⟨W0.heap.size, 0, none⟩) 0 0, v18, Wq.heap.size) _ ⟨R18c, hblk, HBc, HBq.size⟩)
        · refine value_ (by rfl) rfl (by go_simp; first | done | exact ⟨rfl, rfl⟩ | rfl) ?_
          have hy_ : Below Wa.heap.size Wa (Wa.alloc (.cells #[.string d.drawer] 9)) := below_alloc (Below.refl _ _) _
          have hblk := blk_new Wa (.cells #[.string d.drawer] 9)
          have HBb : Below W0.heap.size W0 (Wa.alloc (.cells #[.string d.drawer] 9)) := below_up HBa hy_
          generalize hgWb : Wa.alloc (.cells #[.string d.drawer] 9) = Wb at hblk hy_ HBb ⊢
          have hl1 : Wa.heap.size < Wb.heap.size := blk_lt hblk
          refine hK.out _ _ ⟨keepc HBb hH0.1, keepc HBb hH0.2⟩ (fun hHeld => ?_)
          clear hK K
          refine norm_ (a' := ?_) ?_ ?_
          rotate_left
          · show Act.put _ (some 24) _ = _
            simp only [Act.put, List.setIfInBounds_toArray, List.set_cons_zero, List.set_cons_succ]
            rfl
          refine one_ (i := 5) (N := some 18) #[true, true, true, true, true, true, true, true, true, true, true, true, false, false] rfl rfl (by kernel_rfl) (by decide) (fun K hK => ?_)
          have R13b := Kd.R_mono (Kd.R_below (Kd.R_elderB R13 Wa.heap.size (Nat.le_refl _)) hy_) (fun k hk => hk.2)
          refine app_step (w0 := W0) W0.heap.size (by rfl) (.tmp 13) (.tmp 17) rfl _ [] b.passed A b.passed.length c (fun k => k ≠ Wa.heap.size) rfl rfl (by exact R13b) (Kd.C_below hCW HBb) (by exact fun k hk => by omega) HBb HBb.size (by simp; omega) ?_
          rintro v18 Wq R18 HBq hgr hat
          rw [List.nil_append] at R18
          have hblkq : Wq.heap[Wa.heap.size]? = some (.cells #[.string d.drawer] 9 (0, 0)) := (hgr.block _ hl1 (Kd.R_away R13b (fun _ h => h))).trans hblk
          refine hK.out _ _ ⟨keepc HBq hH0.1, keepc HBq hH0.2⟩ (fun hHeld => ?_)
          refine norm_ (a' := ?_) ?_ ?_
          rotate_left
          · show Act.put _ (some 18) _ = _
            simp only [Act.put, List.setIfInBounds_toArray, List.set_cons_zero, List.set_cons_succ]
            rfl
          exact norm_ (by simp only [putAll, Act.put, List.setIfInBounds_toArray, List.set_cons_zero, List.set_cons_succ]) (hCont (.slice (some ⟨W0.heap.size, 0, none⟩) 0 0, v18, Wa.heap.size) _ ⟨R18, hblkq, HBq, HBa.size⟩)
      · refine value_ (by rfl) rfl (by go_simp; first | done | exact ⟨rfl, rfl⟩ | rfl) ?_
        have hy_ : Below W0.heap.size W0 (W0.alloc (.cells #[.string d.drawer] 9)) := below_alloc (Below.refl _ _) _
        have hblk := blk_new W0 (.cells #[.string d.drawer] 9)
        have HBb : Below W0.heap.size W0 (W0.alloc (.cells #[.string d.drawer] 9)) := below_up HB00 hy_
        generalize hgWb : W0.alloc (.cells #[.string d.drawer] 9) = Wb at hblk hy_ HBb ⊢
        have hl1 : W0.heap.size < Wb.heap.size := blk_lt hblk
        refine hK.out _ _ ⟨keepc HBb hH0.1, keepc HBb hH0.2⟩ (fun hHeld => ?_)
        clear hK K
        refine norm_ (a' := ?_) ?_ ?_
        rotate_left
        · show Act.put _ (some 24) _ = _
          simp only [Act.put, List.setIfInBounds_toArray, List.set_cons_zero, List.set_cons_succ]
          rfl
        refine one_ (i := 0) (N := some 13) #[true, true, true, true, true, false, true, true, true, true, true, true, false, false] rfl rfl (by kernel_rfl) (by decide) (fun K hK => ?_)
        refine value_ (by rfl) rfl (by go_simp; first | done | exact ⟨rfl, rfl⟩ | rfl) ?_
        have hx_ : Below Wb.heap.size Wb (Wb.alloc (.cells #[] 9)) := below_alloc (Below.refl _ _) _
        have R13 := lit_row Wb [] (by simp)
        simp only [List.map_nil, List.length_nil] at R13
        have HBa : Below W0.heap.size W0 (Wb.alloc (.cells #[] 9)) := below_up HBb hx_
        have hszWa : Wb.heap.size < (Wb.alloc (.cells #[] 9)).heap.size := by simp
        generalize hgWa : Wb.alloc (.cells #[] 9) = Wa at R13 hx_ HBa hszWa ⊢
        refine hK.out _ _ ⟨keepc HBa hH0.1, keepc HBa hH0.2⟩ (fun hHeld => ?_)
        clear hK K
        refine norm_ (a' := ?_) ?_ ?_
        rotate_left
        · show Act.put _ (some 13) _ = _
          simp only [Act.put, List.setIfInBounds_toArray, List.set_cons_zero, List.set_cons_succ]
          rfl
        refine one_ (i := 5) (N := some 18) #[true, true, true, true, true, true, true, true, true, true, true, true, false, false] rfl rfl (by kernel_rfl) (by decide) (fun K hK => ?_)
        have R13b := Kd.R_mono R13 (ok' := fun k => k ≠ W0.heap.size) (fun k hk => by omega)
        have R13c := Kd.R_lower R13b HBb.size
        refine app_step (w0 := W0) W0.heap.size (by rfl) (.tmp 13) (.tmp 17) rfl _ [] b.passed A b.passed.length c (fun k => k ≠ W0.heap.size) rfl rfl (by exact R13c) (Kd.C_below hCW HBa) (by exact fun k hk => by omega) HBa HBa.size (by simp; omega) ?_
        rintro v18 Wq R18 HBq hgr hat
        rw [List.nil_append] at R18
        have hblkq : Wq.heap[W0.heap.size]? = some (.cells #[.string d.drawer] 9 (0, 0)) := (hgr.block _ (by omega) (Kd.R_away R13c (fun _ h => h))).trans ((hx_.block _ hl1).trans hblk)
        refine hK.out _ _ ⟨keepc HBq hH0.1, keepc HBq hH0.2⟩ (fun hHeld => ?_)
        refine norm_ (a' := ?_) ?_ ?_
        rotate_left
        · show Act.put _ (some 18) _ = _
          simp only [Act.put, List.setIfInBounds_toArray, List.set_cons_zero, List.set_cons_succ]
          rfl
        exact norm_ (by simp only [putAll, Act.put, List.setIfInBounds_toArray, List.set_cons_zero, List.set_cons_succ]) (hCont (.slice (some ⟨Wb.heap.size, 0, none⟩) 0 0, v18, W0.heap.size) _ ⟨R18, hblkq, HBq, Nat.le_refl _⟩)
    rintro ⟨u13, v18, k24⟩ W1 ⟨R18, hblk, HB1, hk24⟩
    refine norm_ (a' := ?_) ?_ ?_
    rotate_left
    · simp only [putAll, Act.put, List.setIfInBounds_toArray, List.set_cons_zero, List.set_cons_succ]
      rfl
    replace R18 : Kd.R Kd.string 9 W1 W0.heap.size (fun k => k ≠ k24) v18 b.passed := R18
    replace hblk : W1.heap[k24]? = some (.cells #[.string d.drawer] 9 (0, 0)) := hblk
    refine one_ (i := 12) (N := some 25) #[true, true, true, true, true, true, true, true, true, true, true, true, true, false] rfl rfl (by kernel_rfl) (by decide) (fun K hK => ?_)
    refine app_step (w0 := W0) W0.heap.size (by rfl) (.tmp 18) (.tmp 24) rfl v18 b.passed [d.drawer] (some ⟨k24, 0, none⟩) 1 1 (fun _ => True) rfl rfl (Kd.R_mono R18 (fun _ _ => trivial)) (Kd_lit hblk) (fun _ _ => trivial) HB1 HB1.size (by simp; omega) ?_
    rintro v25 W2 R25 HB2 hgr2 hat2
    refine hK.out _ _ ⟨keepc HB2 hH0.1, keepc HB2 hH0.2⟩ (fun hHeld => ?_)
    clear hK K
    refine norm_ (a' := ?_) ?_ ?_
    rotate_left
    · show Act.put _ (some 25) _ = _
      simp only [Act.put, List.setIfInBounds_toArray, List.set_cons_zero, List.set_cons_succ]
      rfl
    refine pure_ (i := 13) (N := some 4) (v := ?_) (a' := ?_) #[true, true, true, true, true, true, true, true, true, true, true, true, true, true] rfl rfl (by kernel_rfl) (fun _ _ _ h => h) (Or.inl ⟨by rfl, ?_⟩) ?_ ?_
    rotate_left
    · intro w'
      go_simp
      with_reducible rfl
    rotate_left
    · simp only [Act.put, List.setIfInBounds_toArray, List.set_cons_zero, List.set_cons_succ]
      rfl
    refine done_ (by kernel_rfl) ?_
    have hBw2 : Below w.heap.size w W2 := hBW.trans (HB2.mono hBW.size)
    have hBWW : Below W.heap.size W W2 := hW02.trans (HB2.mono hW02.size)
    have R3w : Kd.R Kd.string 9 W2 w.heap.size (fun k => k < W.heap.size) (.slice (some ⟨w.heap.size, 0, none⟩) 0 0) [] := Kd.R_below (Kd.R_mono (Kd.R_bound R3) (fun k hk => hk.2.2.1)) hBWW
    have hs0 : W.heap.size ≤ W0.heap.size := hW02.size
    have hs2 : W0.heap.size ≤ W2.heap.size := HB2.size
    have k10 := keepw hBw2 hq10
    have k2 := keepw hBw2 hq2
    obtain ⟨i0, hi0, hz0, hz1, hz2⟩ := infoS
    by_cases ha : b.acc = true
    · have hWho : whoB d b = b.passed ++ [d.drawer] ++ [d.drawee] := if_pos ha
      rw [ha] at k10
      have hown : W2.ownsRow W0.heap.size 9 1 v25 (b.passed ++ [d.drawer]).length ((b.passed ++ [d.drawer]).map Value.string) := Kd.own_of_R R25
      have hl25 : (b.passed ++ [d.drawer]).length ≤ 901 := by simp; omega
      generalize b.passed ++ [d.drawer] = L0 at hown hl25 hWho
      clear ha
      go_wp2_with (at_builtin; refine wpList_append_own_at _ rfl _ _ 26 rfl W0.heap.size 9 i0 (.string ⟨#[]⟩) 1 16 Try.underlying26 hi0 hz0 hz1 hz2 rfl (by decide) _ _ _ rfl (hown.alloc _) ⟨W2.heap.size, 0, none⟩ 1 1 [.string d.drawee] rfl rfl (World.news_of_block (blk_new W2 _)) (by simp [Value.oneCell']) (by unfold maxLen; omega) (by omega) (Nat.le_trans hs2 (by simp)) ?_)
      intro vt Wt hown' hgr' hnil' hloc'
      have hBt2 : Below W0.heap.size W2 Wt := ((Below.refl _ W2).alloc hs2 _).grown hgr' (Nat.le_trans hs2 (by simp)) (fun k hk => own_base hown k hk)
      have R4 : Kd.R Kd.string 9 Wt W0.heap.size (fun _ => True) vt (whoB d b) := Kd.R_of_own (by rw [hWho]; simpa [encs] using hown') (fun _ _ => trivial)
      have R3t : Kd.R Kd.string 9 Wt w.heap.size (fun k => k < W.heap.size) (.slice (some ⟨w.heap.size, 0, none⟩) 0 0) [] := Kd.R_step R3w (fun k hk _ => hBt2.block k (Nat.lt_of_lt_of_le hk hs0))
      have hBt : Below w.heap.size w Wt := hBw2.trans (hBt2.mono (Nat.le_trans (Nat.le_of_lt hNW) hs0))
      clear hown hown' hgr' hnil' hloc' hWho R25 R3w
      have k11 := keepw hBt hq11
      have R4' : Kd.R Kd.string 9 Wt w.heap.size (fun k => some k = vt.ownBlock) vt (whoB d b) := Kd.R_lower (Kd.R_tight rfl R4) (Nat.le_trans (Nat.le_of_lt hNW) hs0)
      have hvl := Kd.R_lt R4
      have R3' : Kd.R Kd.string 9 Wt w.heap.size (fun k => some k ≠ vt.ownBlock) (.slice (some ⟨w.heap.size, 0, none⟩) 0 0) (putAllB b.holder ((whoB d b).take 0)) := Kd.R_mono R3t (fun k hk e => by have := Kd.R_base R4 k e.symm; omega)
      have hwl : (whoB d b).length ≤ 902 := by unfold whoB; split <;> simp <;> omega
      obtain ⟨A4, c4, rfl⟩ := Kd.R_slice R4'
      clear R4 R3t
      go_wp2_with fail
      go_loopw [3, 5] (fun v3 v5 wr => ∃ j : Nat, j ≤ (whoB d b).length ∧ v5 = .int .i64 j ∧ Kd.R Kd.string 9 wr w.heap.size (fun k => some k ≠ (Value.slice A4 (whoB d b).length c4).ownBlock) v3 (putAllB b.holder ((whoB d b).take j)) ∧ Kd.R Kd.string 9 wr w.heap.size (fun k => some k = (Value.slice A4 (whoB d b).length c4).ownBlock) (.slice A4 (whoB d b).length c4) (whoB d b) ∧ Below w.heap.size w wr) (fun _ v5 _ => (whoB d b).length - (intOf v5).toNat)
      case atStart => exact ⟨0, Nat.zero_le _, rfl, R3', R4', hBt⟩
      case round =>
        obtain ⟨j, hj, rfl, RO, RW, hBr⟩ := hrel
        by_cases hlj : j < (whoB d b).length
        · obtain ⟨ad4, eA4, hcz⟩ := Kd.at_string ((Kd.R_reads' RW).2.2) (j : Int) (by omega) (by omega)
          obtain ⟨z, hz, hzj⟩ := mem_rd hlj
          rw [hz, Int.toNat_natCast] at hcz
          have hq11r := keepw hBr hq11
          have htk : (whoB d b).take (j + 1) = (whoB d b).take j ++ [z] := by
            obtain ⟨hl, e⟩ := List.getElem?_eq_some_iff.1 hzj
            rw [List.take_succ_eq_append_getElem hl, e]
          have hPl := putAllB_length b.holder ((whoB d b).take j)
          have hnx := Lib.hid (putAllB_snoc b.holder ((whoB d b).take j) z)
          rw [← htk] at hnx
          replace hPl : (putAllB b.holder ((whoB d b).take j)).length ≤ 902 := by rw [List.length_take] at hPl; omega
          have hRl := Kd.R_lt RW
          generalize putAllB b.holder ((whoB d b).take j) = L at RO hnx hPl
          clear hz htk hzj
          subst eA4
          by_cases ez : z.toList = b.holder.toList
          · have ezb : (z.toList != b.holder.toList) = false := by simp [ez]
            have hnx2 : Hid (putAllB b.holder ((whoB d b).take (j + 1)) = L) := by show _ = _; rw [hnx.out, if_neg (by rw [ezb]; simp)]
            have ezc : (z.toList == b.holder.toList) = true := beq_iff_eq.2 ez
            clear ez ezb hnx
            go_wp2_with fail
            go_quiet (fail)
            go_wp2_with fail
            go_roundw
            case measure => simp [intOf]; omega
            case rel => exact ⟨j + 1, by omega, by go_num, by rw [hnx2.out]; exact Kd.R_drewN RO _, Kd.R_drewN RW _, pw_below_drewN hBr _⟩
          · have ezb : (z.toList != b.holder.toList) = true := by simp [ez]
            have hnx2 : Hid (putAllB b.holder ((whoB d b).take (j + 1)) = putB z L) := by show _ = _; rw [hnx.out, if_pos ezb]
            have ezc : (z.toList == b.holder.toList) = false := beq_eq_false_iff_ne.2 ez
            clear ez ezb hnx
            have cP := fun n => X.supercargoref38_Put.calls 1000 (fun k => some k ≠ (Value.slice (some ad4) (whoB d b).length c4).ownBlock) _ L z (putB z L) w (wr.drewN n) (pw_below_drewN hBr n) (Kd.R_drewN RO n) (put_f L z (by omega) 1000 (by omega))
            go_wp2_with fail
            go_quiet (fail)
            go_wp2_with fail
            refine (cP _).mono ?_
            rintro e w5 ⟨v5, rfl, hR5, hB5, hK5⟩
            have RO5 := Kd.R_mono hR5 (ok' := fun k => some k ≠ (Value.slice (some ad4) (whoB d b).length c4).ownBlock) (fun k hk => hk.elim id (fun q e => by have := hRl k e.symm; have q' : wr.heap.size ≤ k := q; omega))
            have RW5 := Kd.R_kept (Kd.R_drewN RW _) hK5 (fun k hk hp => hp hk)
            go_wp2_with fail
            go_roundw
            case measure => simp [intOf]; omega
            case rel => exact ⟨j + 1, by omega, by go_num, by rw [hnx2.out]; exact RO5, RW5, hB5⟩
        · obtain rfl : j = (whoB d b).length := by omega
          rw [List.take_length, hOut.out] at RO
          go_wp2_with fail
          go_ret
          exact ⟨_, rfl, Kd.R_mono RO (fun _ _ => trivial), hBr⟩
    · have hWho : b.passed ++ [d.drawer] = whoB d b := (if_neg ha).symm
      have ha' : b.acc = false := by simpa using ha
      rw [ha'] at k10
      rw [hWho] at R25
      have hBt := hBw2
      have R3t := R3w
      have R4 := R25
      clear ha ha' R25 R3w
      generalize W2 = Wt at k10 R4 hBt R3t ⊢
      generalize v25 = vt at R4 ⊢
      have k11 := keepw hBt hq11
      have R4' : Kd.R Kd.string 9 Wt w.heap.size (fun k => some k = vt.ownBlock) vt (whoB d b) := Kd.R_lower (Kd.R_tight rfl R4) (Nat.le_trans (Nat.le_of_lt hNW) hs0)
      have hvl := Kd.R_lt R4
      have R3' : Kd.R Kd.string 9 Wt w.heap.size (fun k => some k ≠ vt.ownBlock) (.slice (some ⟨w.heap.size, 0, none⟩) 0 0) (putAllB b.holder ((whoB d b).take 0)) := Kd.R_mono R3t (fun k hk e => by have := Kd.R_base R4 k e.symm; omega)
      have hwl : (whoB d b).length ≤ 902 := by unfold whoB; split <;> simp <;> omega
      obtain ⟨A4, c4, rfl⟩ := Kd.R_slice R4'
      clear R4 R3t
      go_wp2_with fail
      go_loopw [3, 5] (fun v3 v5 wr => ∃ j : Nat, j ≤ (whoB d b).length ∧ v5 = .int .i64 j ∧ Kd.R Kd.string 9 wr w.heap.size (fun k => some k ≠ (Value.slice A4 (whoB d b).length c4).ownBlock) v3 (putAllB b.holder ((whoB d b).take j)) ∧ Kd.R Kd.string 9 wr w.heap.size (fun k => some k = (Value.slice A4 (whoB d b).length c4).ownBlock) (.slice A4 (whoB d b).length c4) (whoB d b) ∧ Below w.heap.size w wr) (fun _ v5 _ => (whoB d b).length - (intOf v5).toNat)
      case atStart => exact ⟨0, Nat.zero_le _, rfl, R3', R4', hBt⟩
      case round =>
        obtain ⟨j, hj, rfl, RO, RW, hBr⟩ := hrel
        by_cases hlj : j < (whoB d b).length
        · obtain ⟨ad4, eA4, hcz⟩ := Kd.at_string ((Kd.R_reads' RW).2.2) (j : Int) (by omega) (by omega)
          obtain ⟨z, hz, hzj⟩ := mem_rd hlj
          rw [hz, Int.toNat_natCast] at hcz
          have hq11r := keepw hBr hq11
          have htk : (whoB d b).take (j + 1) = (whoB d b).take j ++ [z] := by
            obtain ⟨hl, e⟩ := List.getElem?_eq_some_iff.1 hzj
            rw [List.take_succ_eq_append_getElem hl, e]
          have hPl := putAllB_length b.holder ((whoB d b).take j)
          have hnx := Lib.hid (putAllB_snoc b.holder ((whoB d b).take j) z)
          rw [← htk] at hnx
          replace hPl : (putAllB b.holder ((whoB d b).take j)).length ≤ 902 := by rw [List.length_take] at hPl; omega
          have hRl := Kd.R_lt RW
          generalize putAllB b.holder ((whoB d b).take j) = L at RO hnx hPl
          clear hz htk hzj
          subst eA4
          by_cases ez : z.toList = b.holder.toList
          · have ezb : (z.toList != b.holder.toList) = false := by simp [ez]
            have hnx2 : Hid (putAllB b.holder ((whoB d b).take (j + 1)) = L) := by show _ = _; rw [hnx.out, if_neg (by rw [ezb]; simp)]
            have ezc : (z.toList == b.holder.toList) = true := beq_iff_eq.2 ez
            clear ez ezb hnx
            go_wp2_with fail
            go_quiet (fail)
            go_wp2_with fail
            go_roundw
            case measure => simp [intOf]; omega
            case rel => exact ⟨j + 1, by omega, by go_num, by rw [hnx2.out]; exact Kd.R_drewN RO _, Kd.R_drewN RW _, pw_below_drewN hBr _⟩
          · have ezb : (z.toList != b.holder.toList) = true := by simp [ez]
            have hnx2 : Hid (putAllB b.holder ((whoB d b).take (j + 1)) = putB z L) := by show _ = _; rw [hnx.out, if_pos ezb]
            have ezc : (z.toList == b.holder.toList) = false := beq_eq_false_iff_ne.2 ez
            clear ez ezb hnx
            have cP := fun n => X.supercargoref38_Put.calls 1000 (fun k => some k ≠ (Value.slice (some ad4) (whoB d b).length c4).ownBlock) _ L z (putB z L) w (wr.drewN n) (pw_below_drewN hBr n) (Kd.R_drewN RO n) (put_f L z (by omega) 1000 (by omega))
            go_wp2_with fail
            go_quiet (fail)
            go_wp2_with fail
            refine (cP _).mono ?_
            rintro e w5 ⟨v5, rfl, hR5, hB5, hK5⟩
            have RO5 := Kd.R_mono hR5 (ok' := fun k => some k ≠ (Value.slice (some ad4) (whoB d b).length c4).ownBlock) (fun k hk => hk.elim id (fun q e => by have := hRl k e.symm; have q' : wr.heap.size ≤ k := q; omega))
            have RW5 := Kd.R_kept (Kd.R_drewN RW _) hK5 (fun k hk hp => hp hk)
            go_wp2_with fail
            go_roundw
            case measure => simp [intOf]; omega
            case rel => exact ⟨j + 1, by omega, by go_num, by rw [hnx2.out]; exact RO5, RW5, hB5⟩
        · obtain rfl : j = (whoB d b).length := by omega
          rw [List.take_length, hOut.out] at RO
          go_wp2_with fail
          go_ret
          exact ⟨_, rfl, Kd.R_mono RO (fun _ _ => trivial), hBr⟩
end Go.Proofs.Ytcmjgkmnbenniaa.Ext
