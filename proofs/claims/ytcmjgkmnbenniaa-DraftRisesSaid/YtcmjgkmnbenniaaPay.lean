/- (*draft.Bill).Pay. Written by wip/pay.py. -/
import Derived.Test.YtcmjgkmnbenniaaMake
namespace Go.Proofs.Ytcmjgkmnbenniaa.Ext
open Go.RowKit Go.Maps Go.WideMaps Go.Proofs.YtcmjgkmnbenniaaW.PrintWords Go.Proofs.YtcmjgkmnbenniaaW.PrintLast

theorem skip_ {P : Program} {ops : Array Oper} {Q : Exit → Act → World → Prop} {oi : Oper} {a : Act} {w w1 : World} {K : Act → World → Prop} (hw : Region.wanted oi (yielded ops a.tmps) = true) (hN : oi.dst = none)
    (hrun : (execOp a.eval oi).run P w = .ok .skip w1) (h : K a w1) : if Region.wanted oi (yielded ops a.tmps) = true then Oper.wp P oi a w K Q else K (a.put none undef) w := by
  rw [if_pos hw]
  unfold Oper.wp
  rw [hrun, Oper.upon_skip, hN]
  exact h
def liabB (d : Dr) (b : St) : List ByteArray := (liabL d b).map fun l => ⟨l.toArray⟩
theorem liabB_enc (d : Dr) (b : St) : (liabL d b).map Go.Proofs.encStr = (liabB d b).map Value.string := by
  simp [liabB, Go.Proofs.encStr]
theorem pay1_cond (i : Nat) (w : World) (lo g m : Nat) (d : Dr) (b : St) (hi : w.cell? ⟨i, 0, none⟩ = some (pt0 g)) (h : IsBill w lo g m d b) :
    Calls Try.prog 38 #[pt0 i] w fun e w' => e = .returned (.bool (b.state != 0 || d.kind == 0)) ∧ w = w' := by
  have h6 : w.cell? ⟨g, 6, none⟩ = some (.int .i64 d.kind) := h.cell 6
  have h9 : w.cell? ⟨g, 9, none⟩ = some (.int .i64 b.state) := h.cell 9
  obtain ⟨p, hp⟩ : ∃ p, (b.state != 0) = p := ⟨_, rfl⟩
  rw [hp]
  cases p
  · go_enter Try.func38, Try.ntmps38
    go_wp2_with fail
    go_ret
    exact ⟨rfl, rfl⟩
  · go_enter Try.func38, Try.ntmps38
    go_wp2_with fail
    go_ret
    exact ⟨rfl, rfl⟩
theorem contains_any (L : List ByteArray) (hL : L.length ≤ 2000) (base : Nat) (v : Value) (x : ByteArray) (w : World) (h : w.ownsRow base 9 1 v L.length (L.map Value.string)) :
    Calls Try.prog 40 #[v, .string x] w fun e w' => e = .returned (.bool (Lib.containsS L x)) ∧ w' = w := by
  rcases h.2 with ⟨rfl, h0⟩ | ⟨q, cap, cur, rfl, hq, hcur⟩
  · obtain rfl : L = [] := List.length_eq_zero_iff.1 h0
    exact Try.slices_Contains_string_empty none 0 x w
  · have := Try.slices_Contains_string q 0 L.length cap L x w (Nat.le_refl _) (by omega) (fun j hj => by
      rw [Nat.zero_add, h.cellAt j (by omega), List.getElem?_map, List.getElem?_eq_getElem hj, List.getD_eq_getElem?_getD, List.getElem?_eq_getElem hj]
      rfl)
    simpa using this
set_option maxHeartbeats 4000000 in
set_option maxRecDepth 100000 in
theorem pay2_cond (i j : Nat) (x : ByteArray) (w : World) (lo g m : Nat) (d : Dr) (b : St) (hi : w.cell? ⟨i, 0, none⟩ = some (pt0 g)) (hj : w.cell? ⟨j, 0, none⟩ = some (.string x)) (h : IsBill w lo g m d b) (hs : Small d b) (hl : (liabL d b).length ≤ 2000) :
    Calls Try.prog 39 #[pt0 i, pt0 j] w fun e w' => e = .returned (.bool (Lib.containsS (liabB d b) x)) ∧ Below w.heap.size w w' := by
  have HB : Aside (IsBill w lo g m d b) := h
  clear h
  go_enter Try.func39, Try.ntmps39
  go_wp2_with fail
  refine start_ (n := 5) (S := fun w' => w'.cell? ⟨i, 0, none⟩ = some (pt0 g) ∧ w'.cell? ⟨j, 0, none⟩ = some (.string x)) (ds := []) #[false, false, false, false, false] (by kernel_rfl) rfl rfl ?_ (fun hHeld => ?_)
  · exact ⟨hi, hj⟩
  have HW0 : Aside (Below w.heap.size w w.drew) := (Below.refl _ _).drew
  generalize w.drew = W0 at hHeld HW0 ⊢
  refine take_ (i := 0) (N := some 3) (v := ?_) (a' := ?_) #[true, false, false, false, false] rfl rfl (by kernel_rfl) (fun _ _ _ h => h) (Or.inl ⟨by rfl, ?_⟩) hHeld ?_ ?_
  rotate_left
  · rintro w' ⟨s0, s1⟩
    go_simp
    with_reducible rfl
  rotate_left
  · simp only [Act.put, List.setIfInBounds_toArray, List.set_cons_zero, List.set_cons_succ]
    rfl
  refine take_ (i := 2) (N := some 5) (v := ?_) (a' := ?_) #[true, false, true, false, false] rfl rfl (by kernel_rfl) (fun _ _ _ h => h) (Or.inl ⟨by rfl, ?_⟩) hHeld ?_ ?_
  rotate_left
  · rintro w' ⟨s0, s1⟩
    go_simp
    with_reducible rfl
  rotate_left
  · simp only [Act.put, List.setIfInBounds_toArray, List.set_cons_zero, List.set_cons_succ]
    rfl
  refine one_ (i := 1) (N := some 4) #[true, true, true, false, false] rfl rfl (by kernel_rfl) (by decide) (fun K hK => ?_)
  refine goes_ Try.func18 (by kernel_rfl) rfl #[pt0 g] (by rfl) rfl rfl (by (try simp only [List.map_toArray, List.map_cons, List.map_nil]); first | done | rfl) ?_
  refine (Liable_any W0 lo g m d b (HB.out.below HW0.out) hs).mono ?_
  rintro e W1 ⟨v, rfl, hrow, hb⟩
  refine ⟨_, rfl, ?_⟩
  refine hK.out _ _ ⟨keepc hb hHeld.1, keepc hb hHeld.2⟩ (fun hHeld => ?_)
  clear hK K
  refine norm_ (a' := ?_) ?_ ?_
  rotate_left
  · show Act.put _ (some 4) _ = _
    simp only [Act.put, List.setIfInBounds_toArray, List.set_cons_zero, List.set_cons_succ]
    rfl
  rw [liabB_enc] at hrow
  have HB2 : Below w.heap.size w W1 := below_up HW0.out hb
  have hLl : (liabL d b).length = (liabB d b).length := by simp [liabB]
  rw [hLl] at hrow
  refine one_ (i := 3) (N := some 6) #[true, true, true, true, false] rfl rfl (by kernel_rfl) (by decide) (fun K hK => ?_)
  refine goes_ Try.func40 (by kernel_rfl) rfl #[v, .string x] (by rfl) rfl rfl (by (try simp only [List.map_toArray, List.map_cons, List.map_nil]); first | done | rfl) ?_
  refine (contains_any (liabB d b) (by omega) _ v x W1 hrow).mono ?_
  rintro e W2 ⟨rfl, rfl⟩
  refine ⟨_, rfl, ?_⟩
  refine hK.out _ _ hHeld (fun hHeld => ?_)
  clear hK K
  refine norm_ (a' := ?_) ?_ ?_
  rotate_left
  · show Act.put _ (some 6) _ = _
    simp only [Act.put, List.setIfInBounds_toArray, List.set_cons_zero, List.set_cons_succ]
    rfl
  refine pure_ (i := 4) (N := some 2) (v := ?_) (a' := ?_) #[true, true, true, true, true] rfl rfl (by kernel_rfl) (fun _ _ _ h => h) (Or.inl ⟨by rfl, ?_⟩) ?_ ?_
  rotate_left
  · intro w'
    go_simp
    with_reducible rfl
  rotate_left
  · simp only [Act.put, List.setIfInBounds_toArray, List.set_cons_zero, List.set_cons_succ]
    rfl
  refine done_ (by kernel_rfl) ?_
  go_wp2_with fail
  go_ret
  exact ⟨rfl, HB2⟩
theorem set_far {W : World} {p a : Addr} {v : Value} (hne : a.block ≠ p.block) (u : Value) (h : W.cell? a = some v) : (W.setCell p u).cell? a = some v := by
  rw [← h]
  exact World.cell?_of_block (Below.heap_setCell W p u a.block hne)
theorem is_new (x y : ByteArray) (w : World) :
    Calls Try.prog 33 #[.string x, .string y] w fun e w' => ∃ i j, e = .returned (.agg #[.int .i64 8, .func (.func 52) #[] #[pt0 i, pt0 j]]) ∧ w'.cell? ⟨i, 0, none⟩ = some (.string x) ∧ w'.cell? ⟨j, 0, none⟩ = some (.string y) ∧ Below w.heap.size w w' ∧ w.heap.size ≤ i ∧ w.heap.size ≤ j := by
  go_enter Try.func33, Try.ntmps33
  go_wp2_with fail
  refine bodyPost_ret (results_cell_row rfl _ _ (w.heap.size + 1 + 1) 68 #[.int .i64 8, .func (.func 52) #[] #[pt0 w.heap.size, pt0 (w.heap.size + 1)]] (0, 0) _ rfl (by simpa using blk_new ((w.alloc (.cells #[.string x] 9)).alloc (.cells #[.string y] 9)) _) Try.underlying68 rfl (by kernel_rfl)) rfl ?_
  exact ⟨_, _, rfl, by simp [go_sem], by simp [go_sem], by with_reducible repeat (first | apply below_alloc | exact Below.refl _ _), Nat.le_refl _, Nat.le_succ _⟩
def payCode (x : ByteArray) (day : Int) (d : Dr) (b : St) : Int := chain [(1, nameB x && dayB day), (6, decide (b.last ≤ day)), (9, [(0 : Int), 1, 3].contains b.state), (9, b.state != 0 || d.kind == 0), (8, if b.state = 3 then Lib.containsS (liabB d b) x else x.toList == d.drawee.toList)]
def paySt (c day : Int) (b : St) : St := if c = 0 then { b with state := 2, last := day } else b
set_option maxHeartbeats 8000000 in
set_option maxRecDepth 100000 in
theorem Pay_any (x : ByteArray) (day : Int) (hx : x.size ≤ 9223372036854775807) (w : World) (lo g m : Nat) (d : Dr) (b : St) (h : IsBill w lo g m d b) (hs : Small d b) (hl : (liabL d b).length ≤ 2000) (hlo : lo ≤ w.heap.size) :
    Calls Try.prog 19 #[pt0 g, .string x, .int .i64 day] w fun e w' =>
      e = .returned (.int .i64 (payCode x day d b)) ∧ IsBill w' lo g m d (paySt (payCode x day d b) day b) ∧ Below lo w w' ∧ Kept w w' (fun k => k = g) := by
  have HB : Aside (IsBill w lo g m d b) := h
  have hltg := h.ltg
  clear h
  go_enter Try.func19, Try.ntmps19
  go_wp2_with fail
  obtain ⟨W, hW⟩ : ∃ W, W = ((w.alloc (.cells #[pt0 g] 29)).alloc (.cells #[.string x] 9)).alloc (.cells #[.int .i64 9, .func (.func 38) #[] #[pt0 w.heap.size]] 68) := ⟨_, rfl⟩
  have HW : Aside (Below w.heap.size w W) := by rw [hW]; show Below _ _ _; with_reducible repeat (first | apply below_alloc | exact Below.refl _ _)
  have c0 : W.cell? ⟨w.heap.size, 0, none⟩ = some (pt0 g) := by rw [hW]; simp [go_sem]
  have c1 : W.cell? ⟨w.heap.size + 1, 0, none⟩ = some (.string x) := by rw [hW]; simp [go_sem]
  have c2 : W.cell? ⟨w.heap.size + 1 + 1, 0, none⟩ = some (.int .i64 9) := by rw [hW]; simp [go_sem]
  have c3 : W.cell? ⟨w.heap.size + 1 + 1, 1, none⟩ = some (.func (.func 38) #[] #[pt0 w.heap.size]) := by rw [hW]; simp [go_sem]
  have c4 : W.cell? ⟨g, 2, none⟩ = some (.string d.drawee) := (HB.out.below HW.out).cell 2
  rw [← hW]
  clear hW
  refine start_ (n := 9) (S := fun w' => w'.cell? ⟨w.heap.size, 0, none⟩ = some (pt0 g) ∧ w'.cell? ⟨w.heap.size + 1, 0, none⟩ = some (.string x) ∧ w'.cell? ⟨g, 2, none⟩ = some (.string d.drawee)) (ds := []) #[false, false, false, false, false, false, false, false, false] (by kernel_rfl) rfl rfl ?_ (fun hHeld => ?_)
  · exact ⟨c0, c1, c4⟩
  have HW0 : Aside (Below w.heap.size w W.drew) := HW.out.drew
  replace c2 : W.drew.cell? ⟨w.heap.size + 1 + 1, 0, none⟩ = some (.int .i64 9) := c2
  replace c3 : W.drew.cell? ⟨w.heap.size + 1 + 1, 1, none⟩ = some (.func (.func 38) #[] #[pt0 w.heap.size]) := c3
  clear c0 c1 c4 HW
  generalize W.drew = W0 at hHeld HW0 c2 c3 ⊢
  have hHeld0 := hHeld
  refine take_ (i := 0) (N := some 12) (v := ?_) (a' := ?_) #[true, false, false, false, false, false, false, false, false] rfl rfl (by kernel_rfl) (fun _ _ _ h => h) (Or.inl ⟨by rfl, ?_⟩) hHeld ?_ ?_
  rotate_left
  · rintro w' ⟨s0, s1, s2⟩
    go_simp
    with_reducible rfl
  rotate_left
  · simp only [Act.put, List.setIfInBounds_toArray, List.set_cons_zero, List.set_cons_succ]
    rfl
  refine take_ (i := 1) (N := some 13) (v := ?_) (a' := ?_) #[true, true, false, false, false, false, false, false, false] rfl rfl (by kernel_rfl) (fun _ _ _ h => h) (Or.inl ⟨by rfl, ?_⟩) hHeld ?_ ?_
  rotate_left
  · rintro w' ⟨s0, s1, s2⟩
    go_simp
    with_reducible rfl
  rotate_left
  · simp only [Act.put, List.setIfInBounds_toArray, List.set_cons_zero, List.set_cons_succ]
    rfl
  refine pure_ (i := 2) (N := some 14) (v := ?_) (a' := ?_) #[true, true, true, false, false, false, false, false, false] rfl rfl (by kernel_rfl) (fun _ _ _ h => h) (Or.inl ⟨by rfl, ?_⟩) ?_ ?_
  rotate_left
  · intro w'
    go_simp
    with_reducible rfl
  rotate_left
  · simp only [Act.put, List.setIfInBounds_toArray, List.set_cons_zero, List.set_cons_succ]
    rfl
  refine pure_ (i := 3) (N := some 15) (v := ?_) (a' := ?_) #[true, true, true, true, false, false, false, false, false] rfl rfl (by kernel_rfl) (fun _ _ _ h => h) (Or.inl ⟨by rfl, ?_⟩) ?_ ?_
  rotate_left
  · intro w'
    go_simp
    with_reducible rfl
  rotate_left
  · simp only [Act.put, List.setIfInBounds_toArray, List.set_cons_zero, List.set_cons_succ]
    rfl
  refine pure_ (i := 4) (N := some 16) (v := ?_) (a' := ?_) #[true, true, true, true, true, false, false, false, false] rfl rfl (by kernel_rfl) (fun _ _ _ h => h) (Or.inl ⟨by rfl, ?_⟩) ?_ ?_
  rotate_left
  · intro w'
    go_simp
    with_reducible rfl
  rotate_left
  · simp only [Act.put, List.setIfInBounds_toArray, List.set_cons_zero, List.set_cons_succ]
    rfl
  refine take_ (i := 5) (N := some 17) (v := ?_) (a' := ?_) #[true, true, true, true, true, true, false, false, false] rfl rfl (by kernel_rfl) (fun _ _ _ h => h) (Or.inl ⟨by rfl, ?_⟩) hHeld ?_ ?_
  rotate_left
  · rintro w' ⟨s0, s1, s2⟩
    go_simp
    with_reducible rfl
  rotate_left
  · simp only [Act.put, List.setIfInBounds_toArray, List.set_cons_zero, List.set_cons_succ]
    rfl
  refine join_ (σ := Nat × Nat × Nat) 1 #[true, true, true, true, true, true, true, true, false] (fun s_ => [(18, .agg #[.int .i64 8, .func (.func 52) #[] #[pt0 s_.1, pt0 s_.2.1]]), (8, pt0 s_.2.2)]) (fun s_ w' => w'.cell? ⟨s_.1, 0, none⟩ = some (.string x) ∧ w'.cell? ⟨s_.2.1, 0, none⟩ = some (.string d.drawee) ∧ w'.heap[s_.2.2]? = some (.cells #[.int .i64 0, .nilFunc] 68 (0, 0)) ∧ Below W0.heap.size W0 w' ∧ W0.heap.size ≤ s_.2.2 ∧ s_.1 ≠ s_.2.2 ∧ s_.2.1 ≠ s_.2.2) ?_ ?_
  rotate_left
  · intro hCont
    refine two_ (i := 6) (j := 7) (Ni := some 18) (Nj := some 8) #[true, true, true, true, true, true, true, false, false] #[true, true, true, true, true, true, false, true, false] rfl rfl rfl rfl (by kernel_rfl) (by decide) (by decide) (fun K hK => ?_) (fun K hK => ?_)
    · refine goes_ Try.func33 (by kernel_rfl) rfl #[.string x, .string d.drawee] (by rfl) rfl rfl (by (try simp only [List.map_toArray, List.map_cons, List.map_nil]); first | done | rfl) ?_
      refine (is_any x d.drawee W0).mono ?_
      rintro e W2 ⟨i2, j2, rfl, hi2, hj2, HB2⟩
      refine ⟨_, rfl, ?_⟩
      refine hK.out _ _ ⟨keepc HB2 hHeld.1, keepc HB2 hHeld.2.1, keepc HB2 hHeld.2.2⟩ (fun hHeld => ?_)
      clear hK K
      refine norm_ (a' := ?_) ?_ ?_
      rotate_left
      · show Act.put _ (some 18) _ = _
        simp only [Act.put, List.setIfInBounds_toArray, List.set_cons_zero, List.set_cons_succ]
        rfl
      refine one_ (i := 7) (N := some 8) #[true, true, true, true, true, true, true, true, false] rfl rfl (by kernel_rfl) (by decide) (fun K hK => ?_)
      refine value_ (by rfl) rfl (by go_simp; first | done | exact ⟨rfl, rfl⟩ | rfl) ?_
      have HB3 : Below W2.heap.size W2 (W2.alloc (.cells #[.int .i64 0, .nilFunc] 68)) := below_alloc (Below.refl _ _) _
      have hl1 := World.block_lt_of_cell? W2 _ hi2
      have hl2 := World.block_lt_of_cell? W2 _ hj2
      refine hK.out _ _ ⟨keepc HB3 hHeld.1, keepc HB3 hHeld.2.1, keepc HB3 hHeld.2.2⟩ (fun hHeld => ?_)
      exact norm_ (by simp only [putAll, Act.put, List.setIfInBounds_toArray, List.set_cons_zero, List.set_cons_succ]) (hCont (i2, j2, W2.heap.size) _ ⟨keepc HB3 hi2, keepc HB3 hj2, blk_new W2 _, below_up HB2 HB3, HB2.size, Nat.ne_of_lt hl1, Nat.ne_of_lt hl2⟩)
    · refine value_ (by rfl) rfl (by go_simp; first | done | exact ⟨rfl, rfl⟩ | rfl) ?_
      have HB3 : Below W0.heap.size W0 (W0.alloc (.cells #[.int .i64 0, .nilFunc] 68)) := below_alloc (Below.refl _ _) _
      have hblk := blk_new W0 (.cells #[.int .i64 0, .nilFunc] 68)
      generalize W0.alloc (.cells #[.int .i64 0, .nilFunc] 68) = W2 at HB3 hblk ⊢
      refine hK.out _ _ ⟨keepc HB3 hHeld.1, keepc HB3 hHeld.2.1, keepc HB3 hHeld.2.2⟩ (fun hHeld => ?_)
      clear hK K
      refine norm_ (a' := ?_) ?_ ?_
      rotate_left
      · show Act.put _ (some 8) _ = _
        simp only [Act.put, List.setIfInBounds_toArray, List.set_cons_zero, List.set_cons_succ]
        rfl
      refine one_ (i := 6) (N := some 18) #[true, true, true, true, true, true, true, true, false] rfl rfl (by kernel_rfl) (by decide) (fun K hK => ?_)
      refine goes_ Try.func33 (by kernel_rfl) rfl #[.string x, .string d.drawee] (by rfl) rfl rfl (by (try simp only [List.map_toArray, List.map_cons, List.map_nil]); first | done | rfl) ?_
      refine (is_new x d.drawee W2).mono ?_
      rintro e W3 ⟨i2, j2, rfl, hi2, hj2, HB2, hn1, hn2⟩
      refine ⟨_, rfl, ?_⟩
      have hlt := blk_lt hblk
      refine hK.out _ _ ⟨keepc HB2 hHeld.1, keepc HB2 hHeld.2.1, keepc HB2 hHeld.2.2⟩ (fun hHeld => ?_)
      exact norm_ (by simp only [putAll, Act.put, List.setIfInBounds_toArray, List.set_cons_zero, List.set_cons_succ]) (hCont (i2, j2, W0.heap.size) _ ⟨hi2, hj2, blk_below hblk HB2, below_up HB3 HB2, Nat.le_refl _, by show i2 ≠ W0.heap.size; omega, by show j2 ≠ W0.heap.size; omega⟩)
  rintro ⟨i2, j2, B8⟩ W3 ⟨hi2, hj2, hb8, HB3, h8, hn1, hn2⟩
  refine norm_ (a' := ?_) ?_ ?_
  rotate_left
  · simp only [putAll, Act.put, List.setIfInBounds_toArray, List.set_cons_zero, List.set_cons_succ]
    rfl
  have e0 : W3.cell? ⟨B8, 0, none⟩ = some (.int .i64 0) := blk_cell hb8 0
  have e1 : W3.cell? ⟨B8, 1, none⟩ = some .nilFunc := blk_cell hb8 1
  refine one_ (i := 8) (N := none) #[true, true, true, true, true, true, true, true, true] rfl rfl (by kernel_rfl) (by decide) (fun K hK => ?_)
  replace hi2 : W3.cell? ⟨i2, 0, none⟩ = some (.string x) := hi2
  replace hj2 : W3.cell? ⟨j2, 0, none⟩ = some (.string d.drawee) := hj2
  replace h8 : W0.heap.size ≤ B8 := h8
  replace hn1 : i2 ≠ B8 := hn1
  replace hn2 : j2 ≠ B8 := hn2
  have hM2 : w.heap.size + 1 + 1 < B8 := Nat.lt_of_lt_of_le (World.block_lt_of_cell? W0 _ c2) h8
  have f0 : ∀ k, W3.frozen? ⟨B8, k, none⟩ = false := fun k => blk_frozen hb8 k
  refine skip_ (by rfl) rfl (by go_simp; first | done | exact ⟨rfl, rfl⟩ | rfl) ?_
  have hB3 := below_up HW0.out HB3
  have hM0 : w.heap.size ≤ B8 := Nat.le_trans HW0.out.size h8
  have HA4 : Below w.heap.size w ((W3.setCell ⟨B8, 0, none⟩ (.int .i64 8)).setCell ⟨B8, 1, none⟩ (.func (.func 52) #[] #[pt0 i2, pt0 j2])) := (hB3.setCell hM0 _).setCell hM0 _
  have hblk4 : ((W3.setCell ⟨B8, 0, none⟩ (.int .i64 8)).setCell ⟨B8, 1, none⟩ (.func (.func 52) #[] #[pt0 i2, pt0 j2])).heap[B8]? = some (.cells #[.int .i64 8, .func (.func 52) #[] #[pt0 i2, pt0 j2]] 68 (0, 0)) := by simpa using blk_set (blk_set hb8 0 (.int .i64 8)) 1 (.func (.func 52) #[] #[pt0 i2, pt0 j2])
  have hfar : ∀ (a : Addr) (v : Value), a.block ≠ B8 → W3.cell? a = some v → ((W3.setCell ⟨B8, 0, none⟩ (.int .i64 8)).setCell ⟨B8, 1, none⟩ (.func (.func 52) #[] #[pt0 i2, pt0 j2])).cell? a = some v := fun a v hne hv => set_far (by show a.block ≠ B8; exact hne) _ (set_far (by show a.block ≠ B8; exact hne) _ hv)
  have hold : ∀ (a : Addr) (v : Value), W0.cell? a = some v → ((W3.setCell ⟨B8, 0, none⟩ (.int .i64 8)).setCell ⟨B8, 1, none⟩ (.func (.func 52) #[] #[pt0 i2, pt0 j2])).cell? a = some v := fun a v hv => hfar a v (by have := World.block_lt_of_cell? W0 _ hv; omega) (keepc HB3 hv)
  have k0 := hold _ _ hHeld0.1
  have k1 := hold _ _ hHeld0.2.1
  have k1b := hold _ _ hHeld0.2.2
  have k2 := hold _ _ c2
  have k3 := hold _ _ c3
  have ki := hfar ⟨i2, 0, none⟩ _ hn1 hi2
  have kj := hfar ⟨j2, 0, none⟩ _ hn2 hj2
  clear hfar hold hi2 hj2 HB3 hB3 hb8 e0 e1 c2 c3 f0 HW0 hHeld0
  generalize ((W3.setCell ⟨B8, 0, none⟩ (.int .i64 8)).setCell ⟨B8, 1, none⟩ (.func (.func 52) #[] #[pt0 i2, pt0 j2])) = W4 at HA4 hblk4 k0 k1 k1b k2 k3 ki kj ⊢
  refine hK.out _ _ ⟨k0, k1, k1b⟩ (fun hHeld => ?_)
  clear hK K hHeld k1b
  refine done_ (by kernel_rfl) ?_
  have hbill4 : IsBill W4 lo g m d b := HB.out.below HA4
  have h9 : W4.cell? ⟨g, 9, none⟩ = some (.int .i64 b.state) := hbill4.cell 9
  have hg8 : g ≠ B8 := by omega
  by_cases hst3 : b.state = 3
  · have hst3b : (b.state == 3) = true := by rw [hst3]; rfl
    have f1 : W4.frozen? ⟨B8, 1, none⟩ = false := blk_frozen hblk4 1
    have kf : W4.cell? ⟨B8, 1, none⟩ = some (.func (.func 52) #[] #[pt0 i2, pt0 j2]) := blk_cell hblk4 1
    have h9' : W4.cell? ⟨g, 9, none⟩ = some (.int .i64 3) := by rw [h9, hst3]
    have hst3h := Lib.hid hst3
    clear hst3 h9
    go_wp2_with fail
    have HA5 : Below w.heap.size w (W4.setCell ⟨B8, 1, none⟩ (.func (.func 39) #[] #[pt0 w.heap.size, pt0 (w.heap.size + 1)])) := HA4.setCell hM0 _
    have hfar : ∀ (a : Addr) (v : Value), a.block ≠ B8 → W4.cell? a = some v → (W4.setCell ⟨B8, 1, none⟩ (.func (.func 39) #[] #[pt0 w.heap.size, pt0 (w.heap.size + 1)])).cell? a = some v := fun a v hne hv => set_far (by show a.block ≠ B8; exact hne) _ hv
    have hblk5 : (W4.setCell ⟨B8, 1, none⟩ (.func (.func 39) #[] #[pt0 w.heap.size, pt0 (w.heap.size + 1)])).heap[B8]? = some (.cells #[.int .i64 8, .func (.func 39) #[] #[pt0 w.heap.size, pt0 (w.heap.size + 1)]] 68 (0, 0)) := by simpa using blk_set hblk4 1 (.func (.func 39) #[] #[pt0 w.heap.size, pt0 (w.heap.size + 1)])
    replace k0 := hfar _ _ (by show w.heap.size ≠ B8; omega) k0
    replace k1 := hfar _ _ (by show w.heap.size + 1 ≠ B8; omega) k1
    replace k2 := hfar _ _ (by show w.heap.size + 1 + 1 ≠ B8; omega) k2
    replace k3 := hfar _ _ (by show w.heap.size + 1 + 1 ≠ B8; omega) k3
    clear hfar ki kj kf f1 h9' HA4 hbill4 hblk4
    generalize W4.setCell ⟨B8, 1, none⟩ (.func (.func 39) #[] #[pt0 w.heap.size, pt0 (w.heap.size + 1)]) = W5 at HA5 hblk5 k0 k1 k2 k3 ⊢
    have k4 : W5.cell? ⟨B8, 0, none⟩ = some (.int .i64 8) := blk_cell hblk5 0
    have k5 : W5.cell? ⟨B8, 1, none⟩ = some (.func (.func 39) #[] #[pt0 w.heap.size, pt0 (w.heap.size + 1)]) := blk_cell hblk5 1
    have hthird : ∀ W', Below W5.heap.size W5 W' → Calls Try.prog 39 #[pt0 w.heap.size, pt0 (w.heap.size + 1)] W' fun e w'' => e = .returned (.bool (Lib.containsS (liabB d b) x)) ∧ Below W'.heap.size W' w'' := fun W' hW' => pay2_cond _ _ x W' lo g m d b (keepc hW' k0) (keepc hW' k1) (HB.out.below (below_up HA5 hW')) hs hl
    clear hblk5
    refine start_ (n := 11) (S := fun w' => w'.cell? ⟨w.heap.size, 0, none⟩ = some (pt0 g) ∧ w'.cell? ⟨w.heap.size + 1, 0, none⟩ = some (.string x) ∧ w'.cell? ⟨w.heap.size + 1 + 1, 0, none⟩ = some (.int .i64 9) ∧ w'.cell? ⟨w.heap.size + 1 + 1, 1, none⟩ = some (.func (.func 38) #[] #[pt0 w.heap.size]) ∧ w'.cell? ⟨B8, 0, none⟩ = some (.int .i64 8) ∧ w'.cell? ⟨B8, 1, none⟩ = some (.func (.func 39) #[] #[pt0 w.heap.size, pt0 (w.heap.size + 1)])) (ds := [9]) #[false, false, false, false, false, false, false, false, false, false, false] (by kernel_rfl) rfl rfl ?_ (fun hHeld => ?_)
    · exact ⟨k0, k1, k2, k3, k4, k5⟩
    have HW5 : Below w.heap.size w W5.drew := HA5.drew
    have hbill6 : IsBill W5.drew lo g m d b := HB.out.below HW5
    have hthird6 : ∀ W', Below W5.drew.heap.size W5.drew W' → Calls Try.prog 39 #[pt0 w.heap.size, pt0 (w.heap.size + 1)] W' fun e w'' => e = .returned (.bool (Lib.containsS (liabB d b) x)) ∧ Below W'.heap.size W' w'' := fun W' hW' => hthird W' (Below.trans (Below.refl W5.heap.size W5).drew hW')
    clear k0 k1 k2 k3 k4 k5 HA5 hthird
    generalize W5.drew = W6 at hHeld HW5 hbill6 hthird6 ⊢
    refine take_ (i := 0) (N := some 26) (v := ?_) (a' := ?_) #[true, false, false, false, false, false, false, false, false, false, false] rfl rfl (by kernel_rfl) (fun _ _ _ h => h) (Or.inl ⟨by rfl, ?_⟩) hHeld ?_ ?_
    rotate_left
    · rintro w' ⟨s0, s1, s2, s3, s4, s5⟩
      go_simp
      with_reducible rfl
    rotate_left
    · simp only [Act.put, List.setIfInBounds_toArray, List.set_cons_zero, List.set_cons_succ]
      rfl
    refine take_ (i := 1) (N := some 27) (v := ?_) (a' := ?_) #[true, true, false, false, false, false, false, false, false, false, false] rfl rfl (by kernel_rfl) (fun _ _ _ h => h) (Or.inl ⟨by rfl, ?_⟩) hHeld ?_ ?_
    rotate_left
    · rintro w' ⟨s0, s1, s2, s3, s4, s5⟩
      go_simp
      with_reducible rfl
    rotate_left
    · simp only [Act.put, List.setIfInBounds_toArray, List.set_cons_zero, List.set_cons_succ]
      rfl
    refine pure_ (i := 2) (N := some 28) (v := ?_) (a' := ?_) #[true, true, true, false, false, false, false, false, false, false, false] rfl rfl (by kernel_rfl) (fun _ _ _ h => h) (Or.inl ⟨by rfl, ?_⟩) ?_ ?_
    rotate_left
    · intro w'
      go_simp
      with_reducible rfl
    rotate_left
    · simp only [Act.put, List.setIfInBounds_toArray, List.set_cons_zero, List.set_cons_succ]
      rfl
    refine take_ (i := 3) (N := some 29) (v := ?_) (a' := ?_) #[true, true, true, true, false, false, false, false, false, false, false] rfl rfl (by kernel_rfl) (fun _ _ _ h => h) (Or.inl ⟨by rfl, ?_⟩) hHeld ?_ ?_
    rotate_left
    · rintro w' ⟨s0, s1, s2, s3, s4, s5⟩
      go_simp
      with_reducible rfl
    rotate_left
    · simp only [Act.put, List.setIfInBounds_toArray, List.set_cons_zero, List.set_cons_succ]
      rfl
    refine take_ (i := 6) (N := some 32) (v := ?_) (a' := ?_) #[true, true, true, true, false, false, true, false, false, false, false] rfl rfl (by kernel_rfl) (fun _ _ _ h => h) (Or.inl ⟨by rfl, ?_⟩) hHeld ?_ ?_
    rotate_left
    · rintro w' ⟨s0, s1, s2, s3, s4, s5⟩
      go_simp
      with_reducible rfl
    rotate_left
    · simp only [Act.put, List.setIfInBounds_toArray, List.set_cons_zero, List.set_cons_succ]
      rfl
    refine take_ (i := 7) (N := some 33) (v := ?_) (a' := ?_) #[true, true, true, true, false, false, true, true, false, false, false] rfl rfl (by kernel_rfl) (fun _ _ _ h => h) (Or.inl ⟨by rfl, ?_⟩) hHeld ?_ ?_
    rotate_left
    · rintro w' ⟨s0, s1, s2, s3, s4, s5⟩
      go_simp
      with_reducible rfl
    rotate_left
    · simp only [Act.put, List.setIfInBounds_toArray, List.set_cons_zero, List.set_cons_succ]
      rfl
    refine one_ (i := 4) (N := some 30) #[true, true, true, true, true, false, true, true, false, false, false] rfl rfl (by kernel_rfl) (by decide) (fun K hK => ?_)
    refine value_ (by rfl) rfl (by go_simp; first | done | exact ⟨rfl, rfl⟩ | rfl) ?_
    have HB1 : Below W6.heap.size W6 (W6.alloc (.cells #[.int .i64 0, .int .i64 1, .int .i64 3] 3)) := below_alloc (Below.refl _ _) _
    have hs1 : ∀ k, k < 3 → (W6.alloc (.cells #[.int .i64 0, .int .i64 1, .int .i64 3] 3)).cell? ⟨W6.heap.size, k, none⟩ = some (.int .i64 (([0, 1, 3] : List Int).getD k 0)) := fun k hk => by
      rw [blk_cell (blk_new W6 _) k]
      match k, hk with
      | 0, _ => rfl
      | 1, _ => rfl
      | 2, _ => rfl
    generalize (W6.alloc (.cells #[.int .i64 0, .int .i64 1, .int .i64 3] 3)) = W7 at HB1 hs1 ⊢
    refine hK.out _ _ ⟨keepc HB1 hHeld.1, keepc HB1 hHeld.2.1, keepc HB1 hHeld.2.2.1, keepc HB1 hHeld.2.2.2.1, keepc HB1 hHeld.2.2.2.2.1, keepc HB1 hHeld.2.2.2.2.2⟩ (fun hHeld => ?_)
    clear hK K
    refine norm_ (a' := ?_) ?_ ?_
    rotate_left
    · show Act.put _ (some 30) _ = _
      simp only [Act.put, List.setIfInBounds_toArray, List.set_cons_zero, List.set_cons_succ]
      rfl
    refine one_ (i := 5) (N := some 31) #[true, true, true, true, true, true, true, true, false, false, false] rfl rfl (by kernel_rfl) (by decide) (fun K hK => ?_)
    refine goes_ Try.func32 (by kernel_rfl) rfl #[pt0 g, .slice (some ⟨W6.heap.size, 0, none⟩) 3 3] (by rfl) rfl rfl (by (try simp only [List.map_toArray, List.map_cons, List.map_nil]); first | done | rfl) ?_
    refine (in_any g _ 3 3 W7).mono ?_
    rintro e W8 ⟨i1, j1, rfl, hi1, hj1, HB2⟩
    refine ⟨_, rfl, ?_⟩
    refine hK.out _ _ ⟨keepc HB2 hHeld.1, keepc HB2 hHeld.2.1, keepc HB2 hHeld.2.2.1, keepc HB2 hHeld.2.2.2.1, keepc HB2 hHeld.2.2.2.2.1, keepc HB2 hHeld.2.2.2.2.2⟩ (fun hHeld => ?_)
    clear hK K
    refine norm_ (a' := ?_) ?_ ?_
    rotate_left
    · show Act.put _ (some 31) _ = _
      simp only [Act.put, List.setIfInBounds_toArray, List.set_cons_zero, List.set_cons_succ]
      rfl
    refine one_ (i := 8) (N := some 34) #[true, true, true, true, true, true, true, true, true, false, false] rfl rfl (by kernel_rfl) (by decide) (fun K hK => ?_)
    refine value_ (by rfl) rfl (by go_simp; first | done | exact ⟨rfl, rfl⟩ | rfl) ?_
    obtain ⟨L, hL⟩ : ∃ L : List Cond, L = [⟨9, 50, #[pt0 i1, pt0 j1], ([0, 1, 3] : List Int).contains b.state⟩, ⟨9, 38, #[pt0 w.heap.size], b.state != 0 || d.kind == 0⟩, ⟨8, 39, #[pt0 w.heap.size, pt0 (w.heap.size + 1)], (Lib.containsS (liabB d b) x)⟩] := ⟨_, rfl⟩
    have HB4 : Below W8.heap.size W8 (W8.alloc (.cells #[.int .i64 9, .func (.func 50) #[] #[pt0 i1, pt0 j1], .int .i64 9, .func (.func 38) #[] #[pt0 w.heap.size], .int .i64 8, .func (.func 39) #[] #[pt0 w.heap.size, pt0 (w.heap.size + 1)]] 68)) := below_alloc (Below.refl _ _) _
    have hrow : ∀ (j : Nat) (u : Value), (L.flatMap Cond.cells)[j]? = some u → (W8.alloc (.cells #[.int .i64 9, .func (.func 50) #[] #[pt0 i1, pt0 j1], .int .i64 9, .func (.func 38) #[] #[pt0 w.heap.size], .int .i64 8, .func (.func 39) #[] #[pt0 w.heap.size, pt0 (w.heap.size + 1)]] 68)).cell? ((⟨W8.heap.size, 0, none⟩ : Addr).add j) = some u := fun j u hj => World.news_of_block (blk_new W8 _) j u (by rw [hL] at hj; exact hj)
    generalize W8.alloc (.cells #[.int .i64 9, .func (.func 50) #[] #[pt0 i1, pt0 j1], .int .i64 9, .func (.func 38) #[] #[pt0 w.heap.size], .int .i64 8, .func (.func 39) #[] #[pt0 w.heap.size, pt0 (w.heap.size + 1)]] 68) = W9 at HB4 hrow ⊢
    have HC9 : Below W6.heap.size W6 W9 := below_up (below_up HB1 HB2) HB4
    have HA9 : Below w.heap.size w W9 := below_up HW5 HC9
    refine hK.out _ _ ⟨keepc HB4 hHeld.1, keepc HB4 hHeld.2.1, keepc HB4 hHeld.2.2.1, keepc HB4 hHeld.2.2.2.1, keepc HB4 hHeld.2.2.2.2.1, keepc HB4 hHeld.2.2.2.2.2⟩ (fun hHeld => ?_)
    clear hK K
    refine norm_ (a' := ?_) ?_ ?_
    rotate_left
    · show Act.put _ (some 34) _ = _
      simp only [Act.put, List.setIfInBounds_toArray, List.set_cons_zero, List.set_cons_succ]
      rfl
    have hbill9 : IsBill W9 lo g m d b := hbill6.below HC9
    have hcond : ∀ c, c ∈ L → ∀ W', Below W9.heap.size W9 W' → Calls Try.prog c.f c.caps W' fun e w'' => e = .returned (.bool c.ok) ∧ Below W'.heap.size W' w'' := by
      intro c hc W' hW'
      rw [hL] at hc
      simp only [List.mem_cons, List.not_mem_nil, or_false] at hc
      rcases hc with rfl | rfl | rfl
      · exact in_cond i1 j1 W6.heap.size 3 [0, 1, 3] W' lo g m d b (keepc hW' (keepc HB4 hi1)) (by decide) (fun k hk => keepc hW' (keepc HB4 (keepc HB2 (hs1 k (by simpa using hk))))) (keepc hW' (keepc HB4 hj1)) (hbill9.below hW')
      · refine (pay1_cond w.heap.size W' lo g m d b (keepc hW' hHeld.1) (hbill9.below hW')).mono ?_
        rintro e w' ⟨rfl, rfl⟩
        exact ⟨rfl, Below.refl _ _⟩
      · exact hthird6 W' (below_up HC9 hW')
    have hent : ∀ c, c ∈ L → ∀ args W', (callFunc c.f args).run Try.prog W' = .ok (.enter c.f args) W' := by
      intro c hc args W'
      rw [hL] at hc
      simp only [List.mem_cons, List.not_mem_nil, or_false] at hc
      rcases hc with rfl | rfl | rfl
      · exact enters_of Try.func50 (by kernel_rfl) rfl args _
      · exact enters_of Try.func38 (by kernel_rfl) rfl args _
      · exact enters_of Try.func39 (by kernel_rfl) rfl args _
    have hne : ∀ c, c ∈ L → c.e ≠ 0 := by intro c hc; rw [hL] at hc; simp only [List.mem_cons, List.not_mem_nil, or_false] at hc; rcases hc with rfl | rfl | rfl <;> simp
    have hL3 : L.length = 3 := by rw [hL]; rfl
    have hop := open_any 3 x day hx L (by omega) W8.heap.size W9 lo g m d b hbill9 (Nat.le_trans hlo HA9.size) hrow hcond hne hent
    rw [hL3] at hop
    have hcode : Hid (openCode x day b L = payCode x day d b) := by show _ = _; rw [openCode_chain, hL, payCode]; rw [if_pos hst3h.out]; rfl
    refine last_ (i := 9) (N := some 35) #[true, true, true, true, true, true, true, true, true, true, false] rfl rfl (by kernel_rfl) (by decide) (fun K hK => ?_)
    refine goes_ Try.func31 (by kernel_rfl) rfl #[pt0 g, .string x, .int .i64 day, .slice (some ⟨W8.heap.size, 0, none⟩) 3 3] (by rfl) rfl rfl (by (try simp only [List.map_toArray, List.map_cons, List.map_nil]); first | done | rfl) ?_
    refine (hop).mono ?_
    rintro e WA ⟨rfl, hbill5, hbel5, hkept5⟩
    refine ⟨_, rfl, ?_⟩
    refine hK.out _ _ ?_
    clear hK K
    refine norm_ (a' := ?_) ?_ ?_
    rotate_left
    · show Act.put _ (some 35) _ = _
      simp only [Act.put, List.setIfInBounds_toArray, List.set_cons_zero, List.set_cons_succ]
      rfl
    rw [hcode.out] at hbill5 ⊢
    refine pure_ (i := 10) (N := some 9) (v := ?_) (a' := ?_) #[true, true, true, true, true, true, true, true, true, true, true] rfl rfl (by kernel_rfl) (fun _ _ _ h => h) (Or.inl ⟨by rfl, ?_⟩) ?_ ?_
    rotate_left
    · intro w'
      go_simp
      with_reducible rfl
    rotate_left
    · simp only [Act.put, List.setIfInBounds_toArray, List.set_cons_zero, List.set_cons_succ]
      rfl
    refine done_ (by kernel_rfl) ?_
    have hAL : Aside (Below lo w WA) := Below.trans (HA9.mono hlo) hbel5
    have hAK : Aside (Kept w WA (fun k => k = g)) := (Kept.of_below HA9 _).then_ hkept5 (fun k hk => .inl hk)
    have e3 : WA.cell? ⟨w.heap.size, 0, none⟩ = some (pt0 g) := cell_kept hHeld.1 hkept5 (by show ¬ w.heap.size = g; omega)
    clear hHeld hop hcond hent hne hrow hbill9 hbill6 hbel5 hkept5 HA9 HC9 HB1 HB2 HB4 hL3 hL hs1 hi1 hj1 HW5 HB hthird6
    obtain ⟨code, hcd⟩ : ∃ code, payCode x day d b = code := ⟨_, rfl⟩
    have hcc := Lib.hid hcd
    rw [hcd] at hbill5 hcode ⊢
    clear hcd hcode
    by_cases hz : code = 0
    · subst hz
      have hb5 : IsBill WA lo g m d { b with last := day } := by simpa [lastIf] using hbill5
      have hfr : ∀ i, WA.frozen? ⟨g, i, none⟩ = false := fun i => blk_frozen hb5.blk i
      have h9 : WA.cell? ⟨g, 9, none⟩ = some (.int .i64 b.state) := hb5.cell 9
      have hst : Hid (paySt 0 day b = { b with state := 2, last := day }) := by show _ = _; rw [paySt, if_pos rfl]
      go_wp2_with fail
      go_ret
      refine ⟨by rw [hcc.out]; rfl, ?_, ?_, ?_⟩
      · rw [hcc.out, hst.out]
        exact hb5.setg (b' := { b with state := 2, last := day }) 9 (.int .i64 2) rfl rfl
      · exact hAL.out.setCell hb5.log _
      · exact hAK.out.setCell (.inl rfl) _
    · have hz0 : (code == 0) = false := by rw [beq_eq_false_iff_ne]; exact hz
      have hst : Hid (paySt code day b = b) := by show _ = _; rw [paySt, if_neg hz]
      have hb5 : IsBill WA lo g m d b := by simpa [lastIf, hz] using hbill5
      go_wp2_with fail
      go_ret
      refine ⟨by rw [hcc.out]; rfl, ?_, hAL.out, hAK.out⟩
      rw [hcc.out, hst.out]
      exact hb5
  · have hst3b : (b.state == 3) = false := by rw [beq_eq_false_iff_ne]; exact hst3
    have hst3h := Lib.hid hst3
    clear hst3
    go_wp2_with fail
    have k4 : W4.cell? ⟨B8, 0, none⟩ = some (.int .i64 8) := blk_cell hblk4 0
    have k5 : W4.cell? ⟨B8, 1, none⟩ = some (.func (.func 52) #[] #[pt0 i2, pt0 j2]) := blk_cell hblk4 1
    have hthird : ∀ W', Below W4.heap.size W4 W' → Calls Try.prog 52 #[pt0 i2, pt0 j2] W' fun e w'' => e = .returned (.bool (x.toList == d.drawee.toList)) ∧ Below W'.heap.size W' w'' := fun W' hW' => (is_cond i2 j2 x d.drawee W' (keepc hW' ki) (keepc hW' kj)).mono (by rintro e w' ⟨rfl, rfl⟩; exact ⟨rfl, Below.refl _ _⟩)
    have HA5 := HA4
    clear ki kj HA4 hbill4 hblk4 h9
    generalize W4 = W5 at HA5 k0 k1 k2 k3 k4 k5 hthird ⊢
    refine start_ (n := 11) (S := fun w' => w'.cell? ⟨w.heap.size, 0, none⟩ = some (pt0 g) ∧ w'.cell? ⟨w.heap.size + 1, 0, none⟩ = some (.string x) ∧ w'.cell? ⟨w.heap.size + 1 + 1, 0, none⟩ = some (.int .i64 9) ∧ w'.cell? ⟨w.heap.size + 1 + 1, 1, none⟩ = some (.func (.func 38) #[] #[pt0 w.heap.size]) ∧ w'.cell? ⟨B8, 0, none⟩ = some (.int .i64 8) ∧ w'.cell? ⟨B8, 1, none⟩ = some (.func (.func 52) #[] #[pt0 i2, pt0 j2])) (ds := [9]) #[false, false, false, false, false, false, false, false, false, false, false] (by kernel_rfl) rfl rfl ?_ (fun hHeld => ?_)
    · exact ⟨k0, k1, k2, k3, k4, k5⟩
    have HW5 : Below w.heap.size w W5.drew := HA5.drew
    have hbill6 : IsBill W5.drew lo g m d b := HB.out.below HW5
    have hthird6 : ∀ W', Below W5.drew.heap.size W5.drew W' → Calls Try.prog 52 #[pt0 i2, pt0 j2] W' fun e w'' => e = .returned (.bool (x.toList == d.drawee.toList)) ∧ Below W'.heap.size W' w'' := fun W' hW' => hthird W' (Below.trans (Below.refl W5.heap.size W5).drew hW')
    clear k0 k1 k2 k3 k4 k5 HA5 hthird
    generalize W5.drew = W6 at hHeld HW5 hbill6 hthird6 ⊢
    refine take_ (i := 0) (N := some 26) (v := ?_) (a' := ?_) #[true, false, false, false, false, false, false, false, false, false, false] rfl rfl (by kernel_rfl) (fun _ _ _ h => h) (Or.inl ⟨by rfl, ?_⟩) hHeld ?_ ?_
    rotate_left
    · rintro w' ⟨s0, s1, s2, s3, s4, s5⟩
      go_simp
      with_reducible rfl
    rotate_left
    · simp only [Act.put, List.setIfInBounds_toArray, List.set_cons_zero, List.set_cons_succ]
      rfl
    refine take_ (i := 1) (N := some 27) (v := ?_) (a' := ?_) #[true, true, false, false, false, false, false, false, false, false, false] rfl rfl (by kernel_rfl) (fun _ _ _ h => h) (Or.inl ⟨by rfl, ?_⟩) hHeld ?_ ?_
    rotate_left
    · rintro w' ⟨s0, s1, s2, s3, s4, s5⟩
      go_simp
      with_reducible rfl
    rotate_left
    · simp only [Act.put, List.setIfInBounds_toArray, List.set_cons_zero, List.set_cons_succ]
      rfl
    refine pure_ (i := 2) (N := some 28) (v := ?_) (a' := ?_) #[true, true, true, false, false, false, false, false, false, false, false] rfl rfl (by kernel_rfl) (fun _ _ _ h => h) (Or.inl ⟨by rfl, ?_⟩) ?_ ?_
    rotate_left
    · intro w'
      go_simp
      with_reducible rfl
    rotate_left
    · simp only [Act.put, List.setIfInBounds_toArray, List.set_cons_zero, List.set_cons_succ]
      rfl
    refine take_ (i := 3) (N := some 29) (v := ?_) (a' := ?_) #[true, true, true, true, false, false, false, false, false, false, false] rfl rfl (by kernel_rfl) (fun _ _ _ h => h) (Or.inl ⟨by rfl, ?_⟩) hHeld ?_ ?_
    rotate_left
    · rintro w' ⟨s0, s1, s2, s3, s4, s5⟩
      go_simp
      with_reducible rfl
    rotate_left
    · simp only [Act.put, List.setIfInBounds_toArray, List.set_cons_zero, List.set_cons_succ]
      rfl
    refine take_ (i := 6) (N := some 32) (v := ?_) (a' := ?_) #[true, true, true, true, false, false, true, false, false, false, false] rfl rfl (by kernel_rfl) (fun _ _ _ h => h) (Or.inl ⟨by rfl, ?_⟩) hHeld ?_ ?_
    rotate_left
    · rintro w' ⟨s0, s1, s2, s3, s4, s5⟩
      go_simp
      with_reducible rfl
    rotate_left
    · simp only [Act.put, List.setIfInBounds_toArray, List.set_cons_zero, List.set_cons_succ]
      rfl
    refine take_ (i := 7) (N := some 33) (v := ?_) (a' := ?_) #[true, true, true, true, false, false, true, true, false, false, false] rfl rfl (by kernel_rfl) (fun _ _ _ h => h) (Or.inl ⟨by rfl, ?_⟩) hHeld ?_ ?_
    rotate_left
    · rintro w' ⟨s0, s1, s2, s3, s4, s5⟩
      go_simp
      with_reducible rfl
    rotate_left
    · simp only [Act.put, List.setIfInBounds_toArray, List.set_cons_zero, List.set_cons_succ]
      rfl
    refine one_ (i := 4) (N := some 30) #[true, true, true, true, true, false, true, true, false, false, false] rfl rfl (by kernel_rfl) (by decide) (fun K hK => ?_)
    refine value_ (by rfl) rfl (by go_simp; first | done | exact ⟨rfl, rfl⟩ | rfl) ?_
    have HB1 : Below W6.heap.size W6 (W6.alloc (.cells #[.int .i64 0, .int .i64 1, .int .i64 3] 3)) := below_alloc (Below.refl _ _) _
    have hs1 : ∀ k, k < 3 → (W6.alloc (.cells #[.int .i64 0, .int .i64 1, .int .i64 3] 3)).cell? ⟨W6.heap.size, k, none⟩ = some (.int .i64 (([0, 1, 3] : List Int).getD k 0)) := fun k hk => by
      rw [blk_cell (blk_new W6 _) k]
      match k, hk with
      | 0, _ => rfl
      | 1, _ => rfl
      | 2, _ => rfl
    generalize (W6.alloc (.cells #[.int .i64 0, .int .i64 1, .int .i64 3] 3)) = W7 at HB1 hs1 ⊢
    refine hK.out _ _ ⟨keepc HB1 hHeld.1, keepc HB1 hHeld.2.1, keepc HB1 hHeld.2.2.1, keepc HB1 hHeld.2.2.2.1, keepc HB1 hHeld.2.2.2.2.1, keepc HB1 hHeld.2.2.2.2.2⟩ (fun hHeld => ?_)
    clear hK K
    refine norm_ (a' := ?_) ?_ ?_
    rotate_left
    · show Act.put _ (some 30) _ = _
      simp only [Act.put, List.setIfInBounds_toArray, List.set_cons_zero, List.set_cons_succ]
      rfl
    refine one_ (i := 5) (N := some 31) #[true, true, true, true, true, true, true, true, false, false, false] rfl rfl (by kernel_rfl) (by decide) (fun K hK => ?_)
    refine goes_ Try.func32 (by kernel_rfl) rfl #[pt0 g, .slice (some ⟨W6.heap.size, 0, none⟩) 3 3] (by rfl) rfl rfl (by (try simp only [List.map_toArray, List.map_cons, List.map_nil]); first | done | rfl) ?_
    refine (in_any g _ 3 3 W7).mono ?_
    rintro e W8 ⟨i1, j1, rfl, hi1, hj1, HB2⟩
    refine ⟨_, rfl, ?_⟩
    refine hK.out _ _ ⟨keepc HB2 hHeld.1, keepc HB2 hHeld.2.1, keepc HB2 hHeld.2.2.1, keepc HB2 hHeld.2.2.2.1, keepc HB2 hHeld.2.2.2.2.1, keepc HB2 hHeld.2.2.2.2.2⟩ (fun hHeld => ?_)
    clear hK K
    refine norm_ (a' := ?_) ?_ ?_
    rotate_left
    · show Act.put _ (some 31) _ = _
      simp only [Act.put, List.setIfInBounds_toArray, List.set_cons_zero, List.set_cons_succ]
      rfl
    refine one_ (i := 8) (N := some 34) #[true, true, true, true, true, true, true, true, true, false, false] rfl rfl (by kernel_rfl) (by decide) (fun K hK => ?_)
    refine value_ (by rfl) rfl (by go_simp; first | done | exact ⟨rfl, rfl⟩ | rfl) ?_
    obtain ⟨L, hL⟩ : ∃ L : List Cond, L = [⟨9, 50, #[pt0 i1, pt0 j1], ([0, 1, 3] : List Int).contains b.state⟩, ⟨9, 38, #[pt0 w.heap.size], b.state != 0 || d.kind == 0⟩, ⟨8, 52, #[pt0 i2, pt0 j2], (x.toList == d.drawee.toList)⟩] := ⟨_, rfl⟩
    have HB4 : Below W8.heap.size W8 (W8.alloc (.cells #[.int .i64 9, .func (.func 50) #[] #[pt0 i1, pt0 j1], .int .i64 9, .func (.func 38) #[] #[pt0 w.heap.size], .int .i64 8, .func (.func 52) #[] #[pt0 i2, pt0 j2]] 68)) := below_alloc (Below.refl _ _) _
    have hrow : ∀ (j : Nat) (u : Value), (L.flatMap Cond.cells)[j]? = some u → (W8.alloc (.cells #[.int .i64 9, .func (.func 50) #[] #[pt0 i1, pt0 j1], .int .i64 9, .func (.func 38) #[] #[pt0 w.heap.size], .int .i64 8, .func (.func 52) #[] #[pt0 i2, pt0 j2]] 68)).cell? ((⟨W8.heap.size, 0, none⟩ : Addr).add j) = some u := fun j u hj => World.news_of_block (blk_new W8 _) j u (by rw [hL] at hj; exact hj)
    generalize W8.alloc (.cells #[.int .i64 9, .func (.func 50) #[] #[pt0 i1, pt0 j1], .int .i64 9, .func (.func 38) #[] #[pt0 w.heap.size], .int .i64 8, .func (.func 52) #[] #[pt0 i2, pt0 j2]] 68) = W9 at HB4 hrow ⊢
    have HC9 : Below W6.heap.size W6 W9 := below_up (below_up HB1 HB2) HB4
    have HA9 : Below w.heap.size w W9 := below_up HW5 HC9
    refine hK.out _ _ ⟨keepc HB4 hHeld.1, keepc HB4 hHeld.2.1, keepc HB4 hHeld.2.2.1, keepc HB4 hHeld.2.2.2.1, keepc HB4 hHeld.2.2.2.2.1, keepc HB4 hHeld.2.2.2.2.2⟩ (fun hHeld => ?_)
    clear hK K
    refine norm_ (a' := ?_) ?_ ?_
    rotate_left
    · show Act.put _ (some 34) _ = _
      simp only [Act.put, List.setIfInBounds_toArray, List.set_cons_zero, List.set_cons_succ]
      rfl
    have hbill9 : IsBill W9 lo g m d b := hbill6.below HC9
    have hcond : ∀ c, c ∈ L → ∀ W', Below W9.heap.size W9 W' → Calls Try.prog c.f c.caps W' fun e w'' => e = .returned (.bool c.ok) ∧ Below W'.heap.size W' w'' := by
      intro c hc W' hW'
      rw [hL] at hc
      simp only [List.mem_cons, List.not_mem_nil, or_false] at hc
      rcases hc with rfl | rfl | rfl
      · exact in_cond i1 j1 W6.heap.size 3 [0, 1, 3] W' lo g m d b (keepc hW' (keepc HB4 hi1)) (by decide) (fun k hk => keepc hW' (keepc HB4 (keepc HB2 (hs1 k (by simpa using hk))))) (keepc hW' (keepc HB4 hj1)) (hbill9.below hW')
      · refine (pay1_cond w.heap.size W' lo g m d b (keepc hW' hHeld.1) (hbill9.below hW')).mono ?_
        rintro e w' ⟨rfl, rfl⟩
        exact ⟨rfl, Below.refl _ _⟩
      · exact hthird6 W' (below_up HC9 hW')
    have hent : ∀ c, c ∈ L → ∀ args W', (callFunc c.f args).run Try.prog W' = .ok (.enter c.f args) W' := by
      intro c hc args W'
      rw [hL] at hc
      simp only [List.mem_cons, List.not_mem_nil, or_false] at hc
      rcases hc with rfl | rfl | rfl
      · exact enters_of Try.func50 (by kernel_rfl) rfl args _
      · exact enters_of Try.func38 (by kernel_rfl) rfl args _
      · exact enters_of Try.func52 (by kernel_rfl) rfl args _
    have hne : ∀ c, c ∈ L → c.e ≠ 0 := by intro c hc; rw [hL] at hc; simp only [List.mem_cons, List.not_mem_nil, or_false] at hc; rcases hc with rfl | rfl | rfl <;> simp
    have hL3 : L.length = 3 := by rw [hL]; rfl
    have hop := open_any 3 x day hx L (by omega) W8.heap.size W9 lo g m d b hbill9 (Nat.le_trans hlo HA9.size) hrow hcond hne hent
    rw [hL3] at hop
    have hcode : Hid (openCode x day b L = payCode x day d b) := by show _ = _; rw [openCode_chain, hL, payCode]; rw [if_neg hst3h.out]; rfl
    refine last_ (i := 9) (N := some 35) #[true, true, true, true, true, true, true, true, true, true, false] rfl rfl (by kernel_rfl) (by decide) (fun K hK => ?_)
    refine goes_ Try.func31 (by kernel_rfl) rfl #[pt0 g, .string x, .int .i64 day, .slice (some ⟨W8.heap.size, 0, none⟩) 3 3] (by rfl) rfl rfl (by (try simp only [List.map_toArray, List.map_cons, List.map_nil]); first | done | rfl) ?_
    refine (hop).mono ?_
    rintro e WA ⟨rfl, hbill5, hbel5, hkept5⟩
    refine ⟨_, rfl, ?_⟩
    refine hK.out _ _ ?_
    clear hK K
    refine norm_ (a' := ?_) ?_ ?_
    rotate_left
    · show Act.put _ (some 35) _ = _
      simp only [Act.put, List.setIfInBounds_toArray, List.set_cons_zero, List.set_cons_succ]
      rfl
    rw [hcode.out] at hbill5 ⊢
    refine pure_ (i := 10) (N := some 9) (v := ?_) (a' := ?_) #[true, true, true, true, true, true, true, true, true, true, true] rfl rfl (by kernel_rfl) (fun _ _ _ h => h) (Or.inl ⟨by rfl, ?_⟩) ?_ ?_
    rotate_left
    · intro w'
      go_simp
      with_reducible rfl
    rotate_left
    · simp only [Act.put, List.setIfInBounds_toArray, List.set_cons_zero, List.set_cons_succ]
      rfl
    refine done_ (by kernel_rfl) ?_
    have hAL : Aside (Below lo w WA) := Below.trans (HA9.mono hlo) hbel5
    have hAK : Aside (Kept w WA (fun k => k = g)) := (Kept.of_below HA9 _).then_ hkept5 (fun k hk => .inl hk)
    have e3 : WA.cell? ⟨w.heap.size, 0, none⟩ = some (pt0 g) := cell_kept hHeld.1 hkept5 (by show ¬ w.heap.size = g; omega)
    clear hHeld hop hcond hent hne hrow hbill9 hbill6 hbel5 hkept5 HA9 HC9 HB1 HB2 HB4 hL3 hL hs1 hi1 hj1 HW5 HB hthird6
    obtain ⟨code, hcd⟩ : ∃ code, payCode x day d b = code := ⟨_, rfl⟩
    have hcc := Lib.hid hcd
    rw [hcd] at hbill5 hcode ⊢
    clear hcd hcode
    by_cases hz : code = 0
    · subst hz
      have hb5 : IsBill WA lo g m d { b with last := day } := by simpa [lastIf] using hbill5
      have hfr : ∀ i, WA.frozen? ⟨g, i, none⟩ = false := fun i => blk_frozen hb5.blk i
      have h9 : WA.cell? ⟨g, 9, none⟩ = some (.int .i64 b.state) := hb5.cell 9
      have hst : Hid (paySt 0 day b = { b with state := 2, last := day }) := by show _ = _; rw [paySt, if_pos rfl]
      go_wp2_with fail
      go_ret
      refine ⟨by rw [hcc.out]; rfl, ?_, ?_, ?_⟩
      · rw [hcc.out, hst.out]
        exact hb5.setg (b' := { b with state := 2, last := day }) 9 (.int .i64 2) rfl rfl
      · exact hAL.out.setCell hb5.log _
      · exact hAK.out.setCell (.inl rfl) _
    · have hz0 : (code == 0) = false := by rw [beq_eq_false_iff_ne]; exact hz
      have hst : Hid (paySt code day b = b) := by show _ = _; rw [paySt, if_neg hz]
      have hb5 : IsBill WA lo g m d b := by simpa [lastIf, hz] using hbill5
      go_wp2_with fail
      go_ret
      refine ⟨by rw [hcc.out]; rfl, ?_, hAL.out, hAK.out⟩
      rw [hcc.out, hst.out]
      exact hb5
end Go.Proofs.Ytcmjgkmnbenniaa.Ext
