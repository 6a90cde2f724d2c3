/- More methods of a bill. Written by wip/meth.py. -/
import Derived.Test.YtcmjgkmnbenniaaMeth
namespace Go.Proofs.Ytcmjgkmnbenniaa.Ext
open Go.RowKit Go.Proofs.YtcmjgkmnbenniaaW.PrintWords Go.Proofs.YtcmjgkmnbenniaaW.PrintLast
def holdCode (x : ByteArray) (day : Int) (b : St) : Int := chain [(1, nameB x && dayB day), (6, decide (b.last ≤ day)), (9, [(0 : Int), 1].contains b.state), (8, x.toList == b.holder.toList)]
def protestSt (c day : Int) (b : St) : St := if c = 0 then { b with state := 3, last := day } else b
set_option maxHeartbeats 4000000 in
set_option maxRecDepth 100000 in
theorem Protest_any (x : ByteArray) (day : Int) (hx : x.size ≤ 9223372036854775807) (w : World) (lo g m : Nat) (d : Dr) (b : St) (h : IsBill w lo g m d b) (hlo : lo ≤ w.heap.size) :
    Calls Try.prog 41 #[pt0 g, .string x, .int .i64 day] w fun e w' =>
      e = .returned (.int .i64 (holdCode x day b)) ∧ IsBill w' lo g m d (protestSt (holdCode x day b) day b) ∧ Below lo w w' ∧ Kept w w' (fun k => k = g) := by
  have HB : Aside (IsBill w lo g m d b) := h
  have hltg := h.ltg
  clear h
  go_enter Try.func41, Try.ntmps41
  go_wp2_with fail
  obtain ⟨W, hW⟩ : ∃ W, W = w := ⟨_, rfl⟩
  have HW : Aside (Below w.heap.size w W) := by rw [hW]; exact Below.refl _ _
  have c0 : W.cell? ⟨g, 10, none⟩ = some (.string b.holder) := (HB.out.below HW.out).cell 10
  rw [← hW]
  clear hW
  refine start_ (n := 15) (S := fun w' => w'.cell? ⟨g, 10, none⟩ = some (.string b.holder)) (ds := [13]) #[false, false, false, false, false, false, false, false, false, false, false, false, false, false, false] (by kernel_rfl) rfl rfl ?_ (fun hHeld => ?_)
  · exact c0
  have HW0 : Aside (Below w.heap.size w W.drew) := HW.out.drew
  clear c0 HW
  generalize W.drew = W0 at hHeld HW0 ⊢
  refine pure_ (i := 0) (N := some 8) (v := ?_) (a' := ?_) #[true, false, false, false, false, false, false, false, false, false, false, false, false, false, false] rfl rfl (by kernel_rfl) (fun _ _ _ h => h) (Or.inl ⟨by rfl, ?_⟩) ?_ ?_
  rotate_left
  · intro w'
    go_simp
    with_reducible rfl
  rotate_left
  · simp only [Act.put, List.setIfInBounds_toArray, List.set_cons_zero, List.set_cons_succ]
    rfl
  refine pure_ (i := 1) (N := some 9) (v := ?_) (a' := ?_) #[true, true, false, false, false, false, false, false, false, false, false, false, false, false, false] rfl rfl (by kernel_rfl) (fun _ _ _ h => h) (Or.inl ⟨by rfl, ?_⟩) ?_ ?_
  rotate_left
  · intro w'
    go_simp
    with_reducible rfl
  rotate_left
  · simp only [Act.put, List.setIfInBounds_toArray, List.set_cons_zero, List.set_cons_succ]
    rfl
  refine pure_ (i := 2) (N := some 10) (v := ?_) (a' := ?_) #[true, true, true, false, false, false, false, false, false, false, false, false, false, false, false] rfl rfl (by kernel_rfl) (fun _ _ _ h => h) (Or.inl ⟨by rfl, ?_⟩) ?_ ?_
  rotate_left
  · intro w'
    go_simp
    with_reducible rfl
  rotate_left
  · simp only [Act.put, List.setIfInBounds_toArray, List.set_cons_zero, List.set_cons_succ]
    rfl
  refine pure_ (i := 3) (N := some 11) (v := ?_) (a' := ?_) #[true, true, true, true, false, false, false, false, false, false, false, false, false, false, false] rfl rfl (by kernel_rfl) (fun _ _ _ h => h) (Or.inl ⟨by rfl, ?_⟩) ?_ ?_
  rotate_left
  · intro w'
    go_simp
    with_reducible rfl
  rotate_left
  · simp only [Act.put, List.setIfInBounds_toArray, List.set_cons_zero, List.set_cons_succ]
    rfl
  refine pure_ (i := 6) (N := some 14) (v := ?_) (a' := ?_) #[true, true, true, true, false, false, true, false, false, false, false, false, false, false, false] rfl rfl (by kernel_rfl) (fun _ _ _ h => h) (Or.inl ⟨by rfl, ?_⟩) ?_ ?_
  rotate_left
  · intro w'
    go_simp
    with_reducible rfl
  rotate_left
  · simp only [Act.put, List.setIfInBounds_toArray, List.set_cons_zero, List.set_cons_succ]
    rfl
  refine pure_ (i := 7) (N := some 15) (v := ?_) (a' := ?_) #[true, true, true, true, false, false, true, true, false, false, false, false, false, false, false] rfl rfl (by kernel_rfl) (fun _ _ _ h => h) (Or.inl ⟨by rfl, ?_⟩) ?_ ?_
  rotate_left
  · intro w'
    go_simp
    with_reducible rfl
  rotate_left
  · simp only [Act.put, List.setIfInBounds_toArray, List.set_cons_zero, List.set_cons_succ]
    rfl
  refine pure_ (i := 8) (N := some 16) (v := ?_) (a' := ?_) #[true, true, true, true, false, false, true, true, true, false, false, false, false, false, false] rfl rfl (by kernel_rfl) (fun _ _ _ h => h) (Or.inl ⟨by rfl, ?_⟩) ?_ ?_
  rotate_left
  · intro w'
    go_simp
    with_reducible rfl
  rotate_left
  · simp only [Act.put, List.setIfInBounds_toArray, List.set_cons_zero, List.set_cons_succ]
    rfl
  refine pure_ (i := 9) (N := some 17) (v := ?_) (a' := ?_) #[true, true, true, true, false, false, true, true, true, true, false, false, false, false, false] rfl rfl (by kernel_rfl) (fun _ _ _ h => h) (Or.inl ⟨by rfl, ?_⟩) ?_ ?_
  rotate_left
  · intro w'
    go_simp
    with_reducible rfl
  rotate_left
  · simp only [Act.put, List.setIfInBounds_toArray, List.set_cons_zero, List.set_cons_succ]
    rfl
  refine take_ (i := 10) (N := some 18) (v := ?_) (a' := ?_) #[true, true, true, true, false, false, true, true, true, true, true, false, false, false, false] rfl rfl (by kernel_rfl) (fun _ _ _ h => h) (Or.inl ⟨by rfl, ?_⟩) hHeld ?_ ?_
  rotate_left
  · rintro w' s0
    go_simp
    with_reducible rfl
  rotate_left
  · simp only [Act.put, List.setIfInBounds_toArray, List.set_cons_zero, List.set_cons_succ]
    rfl
  refine one_ (i := 4) (N := some 12) #[true, true, true, true, true, false, true, true, true, true, true, false, false, false, false] rfl rfl (by kernel_rfl) (by decide) (fun K hK => ?_)
  refine value_ (by rfl) rfl (by go_simp; first | done | exact ⟨rfl, rfl⟩ | rfl) ?_
  have HB1 : Below W0.heap.size W0 (W0.alloc (.cells #[.int .i64 0, .int .i64 1] 3)) := below_alloc (Below.refl _ _) _
  have hs1 : ∀ k, k < 2 → (W0.alloc (.cells #[.int .i64 0, .int .i64 1] 3)).cell? ⟨W0.heap.size, k, none⟩ = some (.int .i64 (([0, 1] : List Int).getD k 0)) := fun k hk => by
    rw [blk_cell (blk_new W0 _) k]
    match k, hk with
    | 0, _ => rfl
    | 1, _ => rfl
  generalize (W0.alloc (.cells #[.int .i64 0, .int .i64 1] 3)) = W1 at HB1 hs1 ⊢
  refine hK.out _ _ (keepc HB1 hHeld) (fun hHeld => ?_)
  clear hK K
  refine norm_ (a' := ?_) ?_ ?_
  rotate_left
  · show Act.put _ (some 12) _ = _
    simp only [Act.put, List.setIfInBounds_toArray, List.set_cons_zero, List.set_cons_succ]
    rfl
  refine one_ (i := 5) (N := some 13) #[true, true, true, true, true, true, true, true, true, true, true, false, false, false, false] rfl rfl (by kernel_rfl) (by decide) (fun K hK => ?_)
  refine goes_ Try.func32 (by kernel_rfl) rfl #[pt0 g, .slice (some ⟨W0.heap.size, 0, none⟩) 2 2] (by rfl) rfl rfl (by (try simp only [List.map_toArray, List.map_cons, List.map_nil]); first | done | rfl) ?_
  refine (in_any g _ 2 2 W1).mono ?_
  rintro e W2 ⟨i1, j1, rfl, hi1, hj1, HB2⟩
  refine ⟨_, rfl, ?_⟩
  refine hK.out _ _ (keepc HB2 hHeld) (fun hHeld => ?_)
  clear hK K
  refine norm_ (a' := ?_) ?_ ?_
  rotate_left
  · show Act.put _ (some 13) _ = _
    simp only [Act.put, List.setIfInBounds_toArray, List.set_cons_zero, List.set_cons_succ]
    rfl
  refine one_ (i := 11) (N := some 19) #[true, true, true, true, true, true, true, true, true, true, true, true, false, false, false] rfl rfl (by kernel_rfl) (by decide) (fun K hK => ?_)
  refine goes_ Try.func33 (by kernel_rfl) rfl #[.string x, .string b.holder] (by rfl) rfl rfl (by (try simp only [List.map_toArray, List.map_cons, List.map_nil]); first | done | rfl) ?_
  refine (is_any x b.holder _).mono ?_
  rintro e W3 ⟨i2, j2, rfl, hi2, hj2, HB3⟩
  refine ⟨_, rfl, ?_⟩
  refine hK.out _ _ (keepc HB3 hHeld) (fun hHeld => ?_)
  clear hK K
  refine norm_ (a' := ?_) ?_ ?_
  rotate_left
  · show Act.put _ (some 19) _ = _
    simp only [Act.put, List.setIfInBounds_toArray, List.set_cons_zero, List.set_cons_succ]
    rfl
  refine one_ (i := 12) (N := some 20) #[true, true, true, true, true, true, true, true, true, true, true, true, true, false, false] rfl rfl (by kernel_rfl) (by decide) (fun K hK => ?_)
  refine value_ (by rfl) rfl (by go_simp; first | done | exact ⟨rfl, rfl⟩ | rfl) ?_
  obtain ⟨L, hL⟩ : ∃ L : List Cond, L = [⟨9, 50, #[pt0 i1, pt0 j1], ([0, 1] : List Int).contains b.state⟩, ⟨8, 52, #[pt0 i2, pt0 j2], x.toList == b.holder.toList⟩] := ⟨_, rfl⟩
  have HB4 : Below W3.heap.size W3 (W3.alloc (.cells #[.int .i64 9, .func (.func 50) #[] #[pt0 i1, pt0 j1], .int .i64 8, .func (.func 52) #[] #[pt0 i2, pt0 j2]] 68)) := below_alloc (Below.refl _ _) _
  have hrow : ∀ (j : Nat) (u : Value), (L.flatMap Cond.cells)[j]? = some u → (W3.alloc (.cells #[.int .i64 9, .func (.func 50) #[] #[pt0 i1, pt0 j1], .int .i64 8, .func (.func 52) #[] #[pt0 i2, pt0 j2]] 68)).cell? ((⟨W3.heap.size, 0, none⟩ : Addr).add j) = some u := fun j u hj => World.news_of_block (blk_new W3 _) j u (by rw [hL] at hj; exact hj)
  generalize W3.alloc (.cells #[.int .i64 9, .func (.func 50) #[] #[pt0 i1, pt0 j1], .int .i64 8, .func (.func 52) #[] #[pt0 i2, pt0 j2]] 68) = W4 at HB4 hrow ⊢
  have HA3 : Below w.heap.size w W3 := below_up (below_up (below_up HW0.out HB1) HB2) HB3
  have HA4 : Below w.heap.size w W4 := below_up HA3 HB4
  refine hK.out _ _ (keepc HB4 hHeld) (fun hHeld => ?_)
  clear hK K
  refine norm_ (a' := ?_) ?_ ?_
  rotate_left
  · show Act.put _ (some 20) _ = _
    simp only [Act.put, List.setIfInBounds_toArray, List.set_cons_zero, List.set_cons_succ]
    rfl
  have hbill4 : IsBill W4 lo g m d b := HB.out.below HA4
  have hcond : ∀ c, c ∈ L → ∀ W', Below W4.heap.size W4 W' → Calls Try.prog c.f c.caps W' fun e w'' => e = .returned (.bool c.ok) ∧ Below W'.heap.size W' w'' := by
    intro c hc W' hW'
    rw [hL] at hc
    simp only [List.mem_cons, List.not_mem_nil, or_false] at hc
    rcases hc with rfl | rfl
    · exact in_cond i1 j1 W0.heap.size 2 [0, 1] W' lo g m d b (keepc hW' (keepc HB4 (keepc HB3 hi1))) (by decide) (fun k hk => keepc hW' (keepc HB4 (keepc HB3 (keepc HB2 (hs1 k (by simpa using hk)))))) (keepc hW' (keepc HB4 (keepc HB3 hj1))) (hbill4.below hW')
    · refine (is_cond i2 j2 x b.holder W' (keepc hW' (keepc HB4 hi2)) (keepc hW' (keepc HB4 hj2))).mono ?_
      rintro e w' ⟨rfl, rfl⟩
      exact ⟨rfl, Below.refl _ _⟩
  have hent : ∀ c, c ∈ L → ∀ args W', (callFunc c.f args).run Try.prog W' = .ok (.enter c.f args) W' := by
    intro c hc args W'
    rw [hL] at hc
    simp only [List.mem_cons, List.not_mem_nil, or_false] at hc
    rcases hc with rfl | rfl
    · exact enters_of Try.func50 (by kernel_rfl) rfl args _
    · exact enters_of Try.func52 (by kernel_rfl) rfl args _
  have hne : ∀ c, c ∈ L → c.e ≠ 0 := by intro c hc; rw [hL] at hc; simp only [List.mem_cons, List.not_mem_nil, or_false] at hc; rcases hc with rfl | rfl <;> simp
  have hL3 : L.length = 2 := by rw [hL]; rfl
  have hop := open_any 2 x day hx L (by omega) W3.heap.size W4 lo g m d b hbill4 (Nat.le_trans hlo HA4.size) hrow hcond hne hent
  rw [hL3] at hop
  have hcode : Hid (openCode x day b L = holdCode x day b) := by show _ = _; rw [openCode_chain, hL]; rfl
  refine last_ (i := 13) (N := some 21) #[true, true, true, true, true, true, true, true, true, true, true, true, true, true, false] rfl rfl (by kernel_rfl) (by decide) (fun K hK => ?_)
  refine goes_ Try.func31 (by kernel_rfl) rfl #[pt0 g, .string x, .int .i64 day, .slice (some ⟨W3.heap.size, 0, none⟩) 2 2] (by rfl) rfl rfl (by (try simp only [List.map_toArray, List.map_cons, List.map_nil]); first | done | rfl) ?_
  refine (hop).mono ?_
  rintro e W5 ⟨rfl, hbill5, hbel5, hkept5⟩
  refine ⟨_, rfl, ?_⟩
  refine hK.out _ _ ?_
  clear hK K
  refine norm_ (a' := ?_) ?_ ?_
  rotate_left
  · show Act.put _ (some 21) _ = _
    simp only [Act.put, List.setIfInBounds_toArray, List.set_cons_zero, List.set_cons_succ]
    rfl
  rw [hcode.out] at hbill5 ⊢
  refine pure_ (i := 14) (N := some 7) (v := ?_) (a' := ?_) #[true, true, true, true, true, true, true, true, true, true, true, true, true, true, true] rfl rfl (by kernel_rfl) (fun _ _ _ h => h) (Or.inl ⟨by rfl, ?_⟩) ?_ ?_
  rotate_left
  · intro w'
    go_simp
    with_reducible rfl
  rotate_left
  · simp only [Act.put, List.setIfInBounds_toArray, List.set_cons_zero, List.set_cons_succ]
    rfl
  refine done_ (by kernel_rfl) ?_
  have hAL : Aside (Below lo w W5) := Below.trans (HA4.mono hlo) hbel5
  have hAK : Aside (Kept w W5 (fun k => k = g)) := (Kept.of_below HA4 _).then_ hkept5 (fun k hk => .inl hk)
  clear hHeld hop hcond hent hne hrow hbill4 hbel5 hkept5 HA3 HA4 HB1 HB2 HB3 HB4 hL3 hL hs1 hi1 hj1 hi2 hj2 HW0 HB
  obtain ⟨code, hcd⟩ : ∃ code, holdCode x day b = code := ⟨_, rfl⟩
  have hcc := Lib.hid hcd
  rw [hcd] at hbill5 hcode ⊢
  clear hcd hcode
  by_cases hz : code = 0
  · subst hz
    have hb5 : IsBill W5 lo g m d { b with last := day } := by simpa [lastIf] using hbill5
    have hfr : W5.frozen? ⟨g, 9, none⟩ = false := blk_frozen hb5.blk 9
    have h9 : W5.cell? ⟨g, 9, none⟩ = some (.int .i64 b.state) := hb5.cell 9
    have hst : Hid (protestSt 0 day b = { b with state := 3, last := day }) := by show _ = _; rw [protestSt, if_pos rfl]
    go_wp2_with fail
    go_ret
    refine ⟨by rw [hcc.out]; rfl, ?_, ?_, ?_⟩
    · rw [hcc.out, hst.out]
      exact hb5.setg (b' := { b with state := 3, last := day }) 9 (.int .i64 3) rfl rfl
    · exact hAL.out.setCell hb5.log _
    · exact hAK.out.setCell (.inl rfl) _
  · have hz0 : (code == 0) = false := by rw [beq_eq_false_iff_ne]; exact hz
    have hst : Hid (protestSt code day b = b) := by show _ = _; rw [protestSt, if_neg hz]
    have hb5 : IsBill W5 lo g m d b := by simpa [lastIf, hz] using hbill5
    go_wp2_with fail
    go_ret
    refine ⟨by rw [hcc.out]; rfl, ?_, hAL.out, hAK.out⟩
    rw [hcc.out, hst.out]
    exact hb5
end Go.Proofs.Ytcmjgkmnbenniaa.Ext
