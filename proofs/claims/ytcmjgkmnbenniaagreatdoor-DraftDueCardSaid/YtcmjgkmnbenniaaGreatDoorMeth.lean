/- The methods of a bill. Written by wip/meth.py. -/
import Derived.Test.YtcmjgkmnbenniaaGreatDoorOpen
import Derived.Test.YtcmjgkmnbenniaaGreatDoorWTab
import Derived.Test.YtcmjgkmnbenniaaGreatDoorWLast
namespace Go.Proofs.YtcmjgkmnbenniaaGreatDoor.Ext
open Go.RowKit Go.Proofs.YtcmjgkmnbenniaaGreatDoorW.PrintWords Go.Proofs.YtcmjgkmnbenniaaGreatDoorW.PrintLast

theorem value_ {P : Program} {ops : Array Oper} {Q : Exit → Act → World → Prop} {oi : Oper} {N : Option Tmp} {a : Act} {w w1 : World} {v : Value} {K : Act → World → Prop} (hw : Region.wanted oi (yielded ops a.tmps) = true) (hN : oi.dst = N)
    (hrun : (execOp a.eval oi).run P w = .ok (.value v) w1) (h : K (a.put N v) w1) : if Region.wanted oi (yielded ops a.tmps) = true then Oper.wp P oi a w K Q else K (a.put N undef) w := by
  rw [if_pos hw]
  subst hN
  unfold Oper.wp
  rw [hrun, Oper.upon_value]
  exact h
def chain : List (Int × Bool) → Int
  | [] => 0
  | (e, ok) :: r => if ok then chain r else e
theorem openCode_chain (x : ByteArray) (day : Int) (b : St) (rest : List Cond) : openCode x day b rest = chain ((1, nameB x && dayB day) :: (6, decide (b.last ≤ day)) :: rest.map fun c => (c.e, c.ok)) := by
  have h : ∀ l : List Cond, firstBad l = chain (l.map fun c => (c.e, c.ok)) := by
    intro l
    induction l with
    | nil => rfl
    | cons a r ih => simp only [firstBad, List.map_cons, chain, ih]
  exact h _
theorem is_any (x y : ByteArray) (w : World) :
    Calls Tryz.prog 37 #[.string x, .string y] w fun e w' => ∃ i j, e = .returned (.agg #[.int .i64 8, .func (.func 62) #[] #[pt0 i, pt0 j]]) ∧ w'.cell? ⟨i, 0, none⟩ = some (.string x) ∧ w'.cell? ⟨j, 0, none⟩ = some (.string y) ∧ Below w.heap.size w w' := by
  go_enter Tryz.func37, Tryz.ntmps37
  go_wp2_with fail
  refine bodyPost_ret (results_cell_row rfl _ _ (w.heap.size + 1 + 1) 63 #[.int .i64 8, .func (.func 62) #[] #[pt0 w.heap.size, pt0 (w.heap.size + 1)]] (0, 0) _ rfl (by simpa using blk_new ((w.alloc (.cells #[.string x] 9)).alloc (.cells #[.string y] 9)) _) Tryz.underlying63 rfl (by kernel_rfl)) rfl ?_
  exact ⟨_, _, rfl, by simp [go_sem], by simp [go_sem], by with_reducible repeat (first | apply below_alloc | exact Below.refl _ _)⟩
theorem in_any (g : Nat) (A : Option Addr) (n c : Nat) (w : World) :
    Calls Tryz.prog 36 #[pt0 g, .slice A n c] w fun e w' => ∃ i j, e = .returned (.agg #[.int .i64 9, .func (.func 60) #[] #[pt0 i, pt0 j]]) ∧ w'.cell? ⟨i, 0, none⟩ = some (.slice A n c) ∧ w'.cell? ⟨j, 0, none⟩ = some (pt0 g) ∧ Below w.heap.size w w' := by
  go_enter Tryz.func36, Tryz.ntmps36
  go_wp2_with fail
  refine bodyPost_ret (results_cell_row rfl _ _ (w.heap.size + 1 + 1) 63 #[.int .i64 9, .func (.func 60) #[] #[pt0 (w.heap.size + 1), pt0 w.heap.size]] (0, 0) _ rfl (by simpa using blk_new ((w.alloc (.cells #[pt0 g] 39)).alloc (.cells #[.slice A n c] 22)) _) Tryz.underlying63 rfl (by kernel_rfl)) rfl ?_
  exact ⟨_, _, rfl, by simp [go_sem], by simp [go_sem], by with_reducible repeat (first | apply below_alloc | exact Below.refl _ _)⟩
theorem keepc {w w' : World} {p : Addr} {v : Value} (hb : Below w.heap.size w w') (hc : w.cell? p = some v) : w'.cell? p = some v := (hb.cell (World.block_lt_of_cell? w _ hc)).trans hc
theorem below_up {w w1 w2 : World} (h : Below w.heap.size w w1) (k : Below w1.heap.size w1 w2) : Below w.heap.size w w2 := h.trans (k.mono h.size)
theorem IsBill.setg {W : World} {lo g m : Nat} {d : Dr} {b b' : St} (h : IsBill W lo g m d b) (i : Nat) (u : Value) (hb : (billCells d b m).setIfInBounds i u = billCells d b' m) (hp : b'.passed = b.passed) : IsBill (W.setCell ⟨g, i, none⟩ u) lo g m d b' := by
  refine ⟨?_, ?_, h.log, h.lom⟩
  · rw [← hb]; exact blk_set h.blk i u
  · rw [hp]; exact h.own.setCell h.ne.symm _
def acceptCode (x : ByteArray) (day : Int) (d : Dr) (b : St) : Int := chain [(1, nameB x && dayB day), (6, decide (b.last ≤ day)), (9, [(0 : Int)].contains b.state), (9, d.kind != 0), (8, x.toList == d.drawee.toList)]
def acceptSt (c day : Int) (b : St) : St := if c = 0 then { b with state := 1, acc := true, last := day } else b
set_option maxHeartbeats 4000000 in
set_option maxRecDepth 100000 in
theorem Accept_any (x : ByteArray) (day : Int) (hx : x.size ≤ 9223372036854775807) (w : World) (lo g m : Nat) (d : Dr) (b : St) (h : IsBill w lo g m d b) (hlo : lo ≤ w.heap.size) :
    Calls Tryz.prog 15 #[pt0 g, .string x, .int .i64 day] w fun e w' =>
      e = .returned (.int .i64 (acceptCode x day d b)) ∧ IsBill w' lo g m d (acceptSt (acceptCode x day d b) day b) ∧ Below lo w w' ∧ Kept w w' (fun k => k = g) := by
  have HB : Aside (IsBill w lo g m d b) := h
  have hltg := h.ltg
  clear h
  go_enter Tryz.func15, Tryz.ntmps15
  go_wp2_with fail
  obtain ⟨W, hW⟩ : ∃ W, W = (w.alloc (.cells #[pt0 g] 39)).alloc (.cells #[.int .i64 9, .func (.func 34) #[] #[pt0 w.heap.size]] 63) := ⟨_, rfl⟩
  have HW : Aside (Below w.heap.size w W) := by rw [hW]; show Below _ _ _; with_reducible repeat (first | apply below_alloc | exact Below.refl _ _)
  have c0 : W.cell? ⟨w.heap.size, 0, none⟩ = some (pt0 g) := by rw [hW]; simp [go_sem]
  have c1 : W.cell? ⟨w.heap.size + 1, 0, none⟩ = some (.int .i64 9) := by rw [hW]; simp [go_sem]
  have c2 : W.cell? ⟨w.heap.size + 1, 1, none⟩ = some (.func (.func 34) #[] #[pt0 w.heap.size]) := by rw [hW]; simp [go_sem]
  have c3 : W.cell? ⟨g, 2, none⟩ = some (.string d.drawee) := (HB.out.below HW.out).cell 2
  rw [← hW]
  clear hW
  refine start_ (n := 17) (S := fun w' => w'.cell? ⟨w.heap.size, 0, none⟩ = some (pt0 g) ∧ w'.cell? ⟨w.heap.size + 1, 0, none⟩ = some (.int .i64 9) ∧ w'.cell? ⟨w.heap.size + 1, 1, none⟩ = some (.func (.func 34) #[] #[pt0 w.heap.size]) ∧ w'.cell? ⟨g, 2, none⟩ = some (.string d.drawee)) (ds := [15]) #[false, false, false, false, false, false, false, false, false, false, false, false, false, false, false, false, false] (by kernel_rfl) rfl rfl ?_ (fun hHeld => ?_)
  · exact ⟨c0, c1, c2, c3⟩
  have HW0 : Aside (Below w.heap.size w W.drew) := HW.out.drew
  clear c0 c1 c2 c3 HW
  generalize W.drew = W0 at hHeld HW0 ⊢
  refine take_ (i := 0) (N := some 11) (v := ?_) (a' := ?_) #[true, false, false, false, false, false, false, false, false, false, false, false, false, false, false, false, false] rfl rfl (by kernel_rfl) (fun _ _ _ h => h) (Or.inl ⟨by rfl, ?_⟩) hHeld ?_ ?_
  rotate_left
  · rintro w' ⟨s0, s1, s2, s3⟩
    go_simp
    with_reducible rfl
  rotate_left
  · simp only [Act.put, List.setIfInBounds_toArray, List.set_cons_zero, List.set_cons_succ]
    rfl
  refine pure_ (i := 1) (N := some 12) (v := ?_) (a' := ?_) #[true, true, false, false, false, false, false, false, false, false, false, false, false, false, false, false, false] rfl rfl (by kernel_rfl) (fun _ _ _ h => h) (Or.inl ⟨by rfl, ?_⟩) ?_ ?_
  rotate_left
  · intro w'
    go_simp
    with_reducible rfl
  rotate_left
  · simp only [Act.put, List.setIfInBounds_toArray, List.set_cons_zero, List.set_cons_succ]
    rfl
  refine pure_ (i := 2) (N := some 13) (v := ?_) (a' := ?_) #[true, true, true, false, false, false, false, false, false, false, false, false, false, false, false, false, false] rfl rfl (by kernel_rfl) (fun _ _ _ h => h) (Or.inl ⟨by rfl, ?_⟩) ?_ ?_
  rotate_left
  · intro w'
    go_simp
    with_reducible rfl
  rotate_left
  · simp only [Act.put, List.setIfInBounds_toArray, List.set_cons_zero, List.set_cons_succ]
    rfl
  refine take_ (i := 3) (N := some 14) (v := ?_) (a' := ?_) #[true, true, true, true, false, false, false, false, false, false, false, false, false, false, false, false, false] rfl rfl (by kernel_rfl) (fun _ _ _ h => h) (Or.inl ⟨by rfl, ?_⟩) hHeld ?_ ?_
  rotate_left
  · rintro w' ⟨s0, s1, s2, s3⟩
    go_simp
    with_reducible rfl
  rotate_left
  · simp only [Act.put, List.setIfInBounds_toArray, List.set_cons_zero, List.set_cons_succ]
    rfl
  refine take_ (i := 6) (N := some 17) (v := ?_) (a' := ?_) #[true, true, true, true, false, false, true, false, false, false, false, false, false, false, false, false, false] rfl rfl (by kernel_rfl) (fun _ _ _ h => h) (Or.inl ⟨by rfl, ?_⟩) hHeld ?_ ?_
  rotate_left
  · rintro w' ⟨s0, s1, s2, s3⟩
    go_simp
    with_reducible rfl
  rotate_left
  · simp only [Act.put, List.setIfInBounds_toArray, List.set_cons_zero, List.set_cons_succ]
    rfl
  refine pure_ (i := 7) (N := some 18) (v := ?_) (a' := ?_) #[true, true, true, true, false, false, true, true, false, false, false, false, false, false, false, false, false] rfl rfl (by kernel_rfl) (fun _ _ _ h => h) (Or.inl ⟨by rfl, ?_⟩) ?_ ?_
  rotate_left
  · intro w'
    go_simp
    with_reducible rfl
  rotate_left
  · simp only [Act.put, List.setIfInBounds_toArray, List.set_cons_zero, List.set_cons_succ]
    rfl
  refine take_ (i := 8) (N := some 19) (v := ?_) (a' := ?_) #[true, true, true, true, false, false, true, true, true, false, false, false, false, false, false, false, false] rfl rfl (by kernel_rfl) (fun _ _ _ h => h) (Or.inl ⟨by rfl, ?_⟩) hHeld ?_ ?_
  rotate_left
  · rintro w' ⟨s0, s1, s2, s3⟩
    go_simp
    with_reducible rfl
  rotate_left
  · simp only [Act.put, List.setIfInBounds_toArray, List.set_cons_zero, List.set_cons_succ]
    rfl
  refine pure_ (i := 9) (N := some 20) (v := ?_) (a' := ?_) #[true, true, true, true, false, false, true, true, true, true, false, false, false, false, false, false, false] rfl rfl (by kernel_rfl) (fun _ _ _ h => h) (Or.inl ⟨by rfl, ?_⟩) ?_ ?_
  rotate_left
  · intro w'
    go_simp
    with_reducible rfl
  rotate_left
  · simp only [Act.put, List.setIfInBounds_toArray, List.set_cons_zero, List.set_cons_succ]
    rfl
  refine pure_ (i := 10) (N := some 21) (v := ?_) (a' := ?_) #[true, true, true, true, false, false, true, true, true, true, true, false, false, false, false, false, false] rfl rfl (by kernel_rfl) (fun _ _ _ h => h) (Or.inl ⟨by rfl, ?_⟩) ?_ ?_
  rotate_left
  · intro w'
    go_simp
    with_reducible rfl
  rotate_left
  · simp only [Act.put, List.setIfInBounds_toArray, List.set_cons_zero, List.set_cons_succ]
    rfl
  refine pure_ (i := 11) (N := some 22) (v := ?_) (a' := ?_) #[true, true, true, true, false, false, true, true, true, true, true, true, false, false, false, false, false] rfl rfl (by kernel_rfl) (fun _ _ _ h => h) (Or.inl ⟨by rfl, ?_⟩) ?_ ?_
  rotate_left
  · intro w'
    go_simp
    with_reducible rfl
  rotate_left
  · simp only [Act.put, List.setIfInBounds_toArray, List.set_cons_zero, List.set_cons_succ]
    rfl
  refine take_ (i := 12) (N := some 23) (v := ?_) (a' := ?_) #[true, true, true, true, false, false, true, true, true, true, true, true, true, false, false, false, false] rfl rfl (by kernel_rfl) (fun _ _ _ h => h) (Or.inl ⟨by rfl, ?_⟩) hHeld ?_ ?_
  rotate_left
  · rintro w' ⟨s0, s1, s2, s3⟩
    go_simp
    with_reducible rfl
  rotate_left
  · simp only [Act.put, List.setIfInBounds_toArray, List.set_cons_zero, List.set_cons_succ]
    rfl
  refine one_ (i := 4) (N := some 15) #[true, true, true, true, true, false, true, true, true, true, true, true, true, false, false, false, false] rfl rfl (by kernel_rfl) (by decide) (fun K hK => ?_)
  refine value_ (by rfl) rfl (by go_simp; first | done | exact ⟨rfl, rfl⟩ | rfl) ?_
  have HB1 : Below W0.heap.size W0 (W0.alloc (.cells #[.int .i64 0] 3)) := below_alloc (Below.refl _ _) _
  have hs1 : (W0.alloc (.cells #[.int .i64 0] 3)).cell? ⟨W0.heap.size, 0, none⟩ = some (.int .i64 0) := by simp [go_sem]
  generalize W0.alloc (.cells #[.int .i64 0] 3) = W1 at HB1 hs1 ⊢
  refine hK.out _ _ ⟨keepc HB1 hHeld.1, keepc HB1 hHeld.2.1, keepc HB1 hHeld.2.2.1, keepc HB1 hHeld.2.2.2⟩ (fun hHeld => ?_)
  clear hK K
  refine norm_ (a' := ?_) ?_ ?_
  rotate_left
  · show Act.put _ (some 15) _ = _
    simp only [Act.put, List.setIfInBounds_toArray, List.set_cons_zero, List.set_cons_succ]
    rfl
  refine one_ (i := 5) (N := some 16) #[true, true, true, true, true, true, true, true, true, true, true, true, true, false, false, false, false] rfl rfl (by kernel_rfl) (by decide) (fun K hK => ?_)
  refine goes_ Tryz.func36 (by kernel_rfl) rfl #[pt0 g, .slice (some ⟨W0.heap.size, 0, none⟩) 1 1] (by rfl) rfl rfl (by (try simp only [List.map_toArray, List.map_cons, List.map_nil]); first | done | rfl) ?_
  refine (in_any g _ 1 1 W1).mono ?_
  rintro e W2 ⟨i1, j1, rfl, hi1, hj1, HB2⟩
  refine ⟨_, rfl, ?_⟩
  refine hK.out _ _ ⟨keepc HB2 hHeld.1, keepc HB2 hHeld.2.1, keepc HB2 hHeld.2.2.1, keepc HB2 hHeld.2.2.2⟩ (fun hHeld => ?_)
  clear hK K
  refine norm_ (a' := ?_) ?_ ?_
  rotate_left
  · show Act.put _ (some 16) _ = _
    simp only [Act.put, List.setIfInBounds_toArray, List.set_cons_zero, List.set_cons_succ]
    rfl
  refine one_ (i := 13) (N := some 24) #[true, true, true, true, true, true, true, true, true, true, true, true, true, true, false, false, false] rfl rfl (by kernel_rfl) (by decide) (fun K hK => ?_)
  refine goes_ Tryz.func37 (by kernel_rfl) rfl #[.string x, .string d.drawee] (by rfl) rfl rfl (by (try simp only [List.map_toArray, List.map_cons, List.map_nil]); first | done | rfl) ?_
  refine (is_any x d.drawee _).mono ?_
  rintro e W3 ⟨i2, j2, rfl, hi2, hj2, HB3⟩
  refine ⟨_, rfl, ?_⟩
  refine hK.out _ _ ⟨keepc HB3 hHeld.1, keepc HB3 hHeld.2.1, keepc HB3 hHeld.2.2.1, keepc HB3 hHeld.2.2.2⟩ (fun hHeld => ?_)
  clear hK K
  refine norm_ (a' := ?_) ?_ ?_
  rotate_left
  · show Act.put _ (some 24) _ = _
    simp only [Act.put, List.setIfInBounds_toArray, List.set_cons_zero, List.set_cons_succ]
    rfl
  refine one_ (i := 14) (N := some 25) #[true, true, true, true, true, true, true, true, true, true, true, true, true, true, true, false, false] rfl rfl (by kernel_rfl) (by decide) (fun K hK => ?_)
  refine value_ (by rfl) rfl (by go_simp; first | done | exact ⟨rfl, rfl⟩ | rfl) ?_
  obtain ⟨L, hL⟩ : ∃ L : List Cond, L = [⟨9, 60, #[pt0 i1, pt0 j1], [(0 : Int)].contains b.state⟩, ⟨9, 34, #[pt0 w.heap.size], d.kind != 0⟩, ⟨8, 62, #[pt0 i2, pt0 j2], x.toList == d.drawee.toList⟩] := ⟨_, rfl⟩
  have HB4 : Below W3.heap.size W3 (W3.alloc (.cells #[.int .i64 9, .func (.func 60) #[] #[pt0 i1, pt0 j1], .int .i64 9, .func (.func 34) #[] #[pt0 w.heap.size], .int .i64 8, .func (.func 62) #[] #[pt0 i2, pt0 j2]] 63)) := below_alloc (Below.refl _ _) _
  have hrow : ∀ (j : Nat) (u : Value), (L.flatMap Cond.cells)[j]? = some u → (W3.alloc (.cells #[.int .i64 9, .func (.func 60) #[] #[pt0 i1, pt0 j1], .int .i64 9, .func (.func 34) #[] #[pt0 w.heap.size], .int .i64 8, .func (.func 62) #[] #[pt0 i2, pt0 j2]] 63)).cell? ((⟨W3.heap.size, 0, none⟩ : Addr).add j) = some u := fun j u hj => World.news_of_block (blk_new W3 _) j u (by rw [hL] at hj; exact hj)
  generalize W3.alloc (.cells #[.int .i64 9, .func (.func 60) #[] #[pt0 i1, pt0 j1], .int .i64 9, .func (.func 34) #[] #[pt0 w.heap.size], .int .i64 8, .func (.func 62) #[] #[pt0 i2, pt0 j2]] 63) = W4 at HB4 hrow ⊢
  have HA3 : Below w.heap.size w W3 := below_up (below_up (below_up HW0.out HB1) HB2) HB3
  have HA4 : Below w.heap.size w W4 := below_up HA3 HB4
  refine hK.out _ _ ⟨keepc HB4 hHeld.1, keepc HB4 hHeld.2.1, keepc HB4 hHeld.2.2.1, keepc HB4 hHeld.2.2.2⟩ (fun hHeld => ?_)
  clear hK K
  refine norm_ (a' := ?_) ?_ ?_
  rotate_left
  · show Act.put _ (some 25) _ = _
    simp only [Act.put, List.setIfInBounds_toArray, List.set_cons_zero, List.set_cons_succ]
    rfl
  have hbill4 : IsBill W4 lo g m d b := HB.out.below HA4
  have hcond : ∀ c, c ∈ L → ∀ W', Below W4.heap.size W4 W' → Calls Tryz.prog c.f c.caps W' fun e w'' => e = .returned (.bool c.ok) ∧ Below W'.heap.size W' w'' := by
    intro c hc W' hW'
    rw [hL] at hc
    simp only [List.mem_cons, List.not_mem_nil, or_false] at hc
    rcases hc with rfl | rfl | rfl
    · refine in_cond i1 j1 W0.heap.size 1 [0] W' lo g m d b (keepc hW' (keepc HB4 (keepc HB3 hi1))) (by decide) (fun k hk => ?_) (keepc hW' (keepc HB4 (keepc HB3 hj1))) (hbill4.below hW')
      obtain rfl : k = 0 := by simpa using hk
      exact keepc hW' (keepc HB4 (keepc HB3 (keepc HB2 hs1)))
    · refine (sight_cond w.heap.size W' lo g m d b (keepc hW' hHeld.1) (hbill4.below hW')).mono ?_
      rintro e w' ⟨rfl, rfl⟩
      exact ⟨rfl, Below.refl _ _⟩
    · refine (is_cond i2 j2 x d.drawee W' (keepc hW' (keepc HB4 hi2)) (keepc hW' (keepc HB4 hj2))).mono ?_
      rintro e w' ⟨rfl, rfl⟩
      exact ⟨rfl, Below.refl _ _⟩
  have hent : ∀ c, c ∈ L → ∀ args W', (callFunc c.f args).run Tryz.prog W' = .ok (.enter c.f args) W' := by
    intro c hc args W'
    rw [hL] at hc
    simp only [List.mem_cons, List.not_mem_nil, or_false] at hc
    rcases hc with rfl | rfl | rfl
    · exact enters_of Tryz.func60 (by kernel_rfl) rfl args _
    · exact enters_of Tryz.func34 (by kernel_rfl) rfl args _
    · exact enters_of Tryz.func62 (by kernel_rfl) rfl args _
  have hne : ∀ c, c ∈ L → c.e ≠ 0 := by intro c hc; rw [hL] at hc; simp only [List.mem_cons, List.not_mem_nil, or_false] at hc; rcases hc with rfl | rfl | rfl <;> simp
  have hL3 : L.length = 3 := by rw [hL]; rfl
  have hop := open_any 3 x day hx L (by omega) W3.heap.size W4 lo g m d b hbill4 (Nat.le_trans hlo HA4.size) hrow hcond hne hent
  rw [hL3] at hop
  have hcode : Hid (openCode x day b L = acceptCode x day d b) := by show _ = _; rw [openCode_chain, hL]; rfl
  refine last_ (i := 15) (N := some 26) #[true, true, true, true, true, true, true, true, true, true, true, true, true, true, true, true, false] rfl rfl (by kernel_rfl) (by decide) (fun K hK => ?_)
  refine goes_ Tryz.func35 (by kernel_rfl) rfl #[pt0 g, .string x, .int .i64 day, .slice (some ⟨W3.heap.size, 0, none⟩) 3 3] (by rfl) rfl rfl (by (try simp only [List.map_toArray, List.map_cons, List.map_nil]); first | done | rfl) ?_
  refine (hop).mono ?_
  rintro e W5 ⟨rfl, hbill5, hbel5, hkept5⟩
  refine ⟨_, rfl, ?_⟩
  refine hK.out _ _ ?_
  clear hK K
  refine norm_ (a' := ?_) ?_ ?_
  rotate_left
  · show Act.put _ (some 26) _ = _
    simp only [Act.put, List.setIfInBounds_toArray, List.set_cons_zero, List.set_cons_succ]
    rfl
  rw [hcode.out] at hbill5 ⊢
  refine pure_ (i := 16) (N := some 8) (v := ?_) (a' := ?_) #[true, true, true, true, true, true, true, true, true, true, true, true, true, true, true, true, true] rfl rfl (by kernel_rfl) (fun _ _ _ h => h) (Or.inl ⟨by rfl, ?_⟩) ?_ ?_
  rotate_left
  · intro w'
    go_simp
    with_reducible rfl
  rotate_left
  · simp only [Act.put, List.setIfInBounds_toArray, List.set_cons_zero, List.set_cons_succ]
    rfl
  refine done_ (by kernel_rfl) ?_
  have hAL : Aside (Below lo w W5) := by
    refine Below.trans (HA4.mono hlo) hbel5
  have hAK : Aside (Kept w W5 (fun k => k = g)) := (Kept.of_below HA4 _).then_ hkept5 (fun k hk => .inl hk)
  have e3 : W5.cell? ⟨w.heap.size, 0, none⟩ = some (pt0 g) := cell_kept hHeld.1 hkept5 (by show ¬ w.heap.size = g; omega)
  clear hHeld hop hcond hent hne hrow hbill4 hbel5 hkept5 HA3 HA4 HB1 HB2 HB3 HB4 hL3 hL hs1 hi1 hj1 hi2 hj2 HW0 HB
  obtain ⟨code, hcd⟩ : ∃ code, acceptCode x day d b = code := ⟨_, rfl⟩
  have hcc := Lib.hid hcd
  rw [hcd] at hbill5 hcode ⊢
  clear hcd hcode
  by_cases hz : code = 0
  · subst hz
    have hb5 : IsBill W5 lo g m d { b with last := day } := by simpa [lastIf] using hbill5
    have hfr : ∀ i, W5.frozen? ⟨g, i, none⟩ = false := fun i => blk_frozen hb5.blk i
    have h9 : W5.cell? ⟨g, 9, none⟩ = some (.int .i64 b.state) := hb5.cell 9
    have h13 : W5.cell? ⟨g, 13, none⟩ = some (.bool b.acc) := hb5.cell 13
    have hst : Hid (acceptSt 0 day b = { b with state := 1, acc := true, last := day }) := by show _ = _; rw [acceptSt, if_pos rfl]
    go_wp2_with fail
    go_region
    go_wp2_with fail
    go_ret
    refine ⟨by rw [hcc.out]; rfl, ?_, ?_, ?_⟩
    · rw [hcc.out, hst.out]
      exact IsBill.below (lo := lo) (h := (hb5.setg (b' := { b with last := day, state := 1 }) 9 (.int .i64 1) rfl rfl).setg (b' := { b with last := day, state := 1, acc := true }) 13 (.bool true) rfl rfl) (hb := (Below.refl _ _).drew)
    · exact ((hAL.out.setCell hb5.log _).setCell hb5.log _).drew
    · exact ((hAK.out.setCell (.inl rfl) _).setCell (.inl rfl) _).drew
  · have hz0 : (code == 0) = false := by rw [beq_eq_false_iff_ne]; exact hz
    have hst : Hid (acceptSt code day b = b) := by show _ = _; rw [acceptSt, if_neg hz]
    have hb5 : IsBill W5 lo g m d b := by simpa [lastIf, hz] using hbill5
    go_wp2_with fail
    go_ret
    refine ⟨by rw [hcc.out]; rfl, ?_, hAL.out, hAK.out⟩
    rw [hcc.out, hst.out]
    exact hb5
end Go.Proofs.YtcmjgkmnbenniaaGreatDoor.Ext
