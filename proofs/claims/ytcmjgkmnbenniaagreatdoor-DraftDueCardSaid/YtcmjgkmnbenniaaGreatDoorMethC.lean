/- Pass. Written by wip/meth.py. -/
import Derived.Test.YtcmjgkmnbenniaaGreatDoorMethB
import Derived.Test.YtcmjgkmnbenniaaGreatDoorLiab
import Derived.WideKeyEntry
namespace Go.Proofs.YtcmjgkmnbenniaaGreatDoor.Ext
open Go.RowKit Go.Maps Go.WideMaps Go.ChangeMaps Go.Proofs.YtcmjgkmnbenniaaGreatDoorW.PrintWords Go.Proofs.YtcmjgkmnbenniaaGreatDoorW.PrintLast
def passCode (x y : ByteArray) (day : Int) (b : St) : Int := if nameB y = true ∧ y.toList ≠ x.toList then holdCode x day b else 1
def passSt (c : Int) (x y : ByteArray) (day : Int) (b : St) : St := if c = 0 then { b with passed := b.passed ++ [x], holder := y, last := day } else b
theorem setM_snoc {H : Type} (acc : List ByteArray) (t : ByteArray) : setM (H := H) (acc ++ [t]) = (setM acc).put (keyL t) (.lit (.bool true)) := by
  unfold setM
  rw [List.map_append, List.map_cons, List.map_nil, setOf_snoc]
  rfl
theorem entry_own {H : Type} {P : Program} {w : World} {t k e : TypeId} {R : Value → Option (DataW H × List MemPlace)} {b n : Nat} {D : DataW H} (hown : w.ownsMap P k R b n D) (KL : KeyLaw P k) (K : Keyed P k) (ht : P.underlying t = some (.map k e)) {z : Value} (hz : ∀ u : World, (zeroValue e).run P u = .ok z u)
    (hn : n < maxLen) {key val : Value} {kl : Lit} {d : DataW H} {ps : List MemPlace} (hkey : keyOf P k key = some kl) (hv : R val = some (d, ps)) :
    ∃ (v0 : Value) (st : Nat) (w1 w2 : World), (Instr.mapEntry t (.map (some b)) key).run P w = .ok (.tuple #[v0, .int .i64 st]) w1 ∧ (Instr.entryStore t (.map (some b)) (.int .i64 st) val).run P w1 = .ok () w2 ∧ w2.ownsMap P k R b (n + 1) (D.put kl d) ∧ w.grownBy w2 (some b) := by
  obtain ⟨w', hrun, hown', hgr⟩ := hown.update K ht hn hkey hv
  obtain ⟨es, clock, hb, F, _, _⟩ := hown
  obtain ⟨v0, st, es1, clock1, hE, _, hS⟩ := Go.WideElems.entry_then_store KL ht hz hb F hkey
  obtain ⟨es', clock', hst, hup⟩ := hS (setBlock w b (.map es1 clock1)) val (by simp [setBlock, (Array.getElem?_eq_some_iff.1 hb).1])
  have e1 : w' = setBlock w b (.map es' clock') := by
    rw [hrun] at hup
    injection hup
  have e2 : setBlock (setBlock w b (.map es1 clock1)) b (.map es' clock') = w' := by rw [e1]; simp [setBlock]
  exact ⟨v0, st, _, _, hE, hst, by rw [e2]; exact hown', by rw [e2]; exact hgr⟩
set_option maxHeartbeats 4000000 in
set_option maxRecDepth 100000 in
theorem Pass_any (x y : ByteArray) (day : Int) (hx : x.size ≤ 9223372036854775807) (hy : y.size ≤ 9223372036854775807) (w : World) (lo g m : Nat) (d : Dr) (b : St) (h : IsBill w lo g m d b) (hp : b.passed.length ≤ 1000) (hlo : lo ≤ w.heap.size) :
    Calls Tryz.prog 16 #[pt0 g, .string x, .string y, .int .i64 day] w fun e w' =>
      e = .returned (.int .i64 (passCode x y day b)) ∧ IsBill w' lo g m d (passSt (passCode x y day b) x y day b) ∧ Below lo w w' ∧ Kept w w' (fun k => k = g ∨ k = m) := by
  have HB : Aside (IsBill w lo g m d b) := h
  have hltg := h.ltg
  have hltm := h.ltm
  clear h
  have hn := Name_any y hy
  by_cases hny : nameB y = true
  · by_cases hyx : y.toList = x.toList
    · have hpc : Hid (passCode x y day b = 1) := by show _ = _; rw [passCode, if_neg (fun q => q.2 hyx)]
      have hps : Hid (passSt 1 x y day b = b) := by show _ = _; rw [passSt, if_neg (by decide)]
      have hyx' : (y.toList == x.toList) = true := by rw [beq_iff_eq]; exact hyx
      rw [hny] at hn
      clear hny hyx
      go_enter Tryz.func16, Tryz.ntmps16
      go_wp2_with fail
      refine (hn _).mono ?_
      rintro e w' ⟨rfl, rfl⟩
      go_wp2_with fail
      go_ret
      exact ⟨by rw [hpc.out]; rfl, by rw [hpc.out, hps.out]; exact HB.out, Below.refl _ _, Kept.refl _ _⟩
    · have hpc : Hid (passCode x y day b = holdCode x day b) := by show _ = _; rw [passCode, if_pos ⟨hny, hyx⟩]
      have hyx' : (y.toList == x.toList) = false := by rw [beq_eq_false_iff_ne]; exact hyx
      rw [hny] at hn
      clear hny hyx
      go_enter Tryz.func16, Tryz.ntmps16
      go_wp2_with fail
      refine (hn _).mono ?_
      rintro e w' ⟨rfl, rfl⟩
      clear hn
      go_wp2_with fail
      obtain ⟨W, hW⟩ : ∃ W, W = w := ⟨_, rfl⟩
      have HW : Aside (Below w.heap.size w W) := by rw [hW]; exact Below.refl _ _
      have c0 : W.cell? ⟨g, 10, none⟩ = some (.string b.holder) := (HB.out.below HW.out).cell 10
      rw [← hW]
      clear hW
      refine start_ (n := 15) (S := fun w' => w'.cell? ⟨g, 10, none⟩ = some (.string b.holder)) (ds := [13]) #[false, false, false, false, false, false, false, false, false, false, false, false, false, false, false] (by kernel_rfl) rfl rfl ?_ (fun hHeld => ?_)
      · exact c0
      have HW0 : Aside (Below w.heap.size w W.drew) := HW.out.drew
      clear c0 HW
      generalize W.drew = W0 at hHeld HW0 ⊢
      refine pure_ (i := 0) (N := some 18) (v := ?_) (a' := ?_) #[true, false, false, false, false, false, false, false, false, false, false, false, false, false, false] rfl rfl (by kernel_rfl) (fun _ _ _ h => h) (Or.inl ⟨by rfl, ?_⟩) ?_ ?_
      rotate_left
      · intro w'
        go_simp
        with_reducible rfl
      rotate_left
      · simp only [Act.put, List.setIfInBounds_toArray, List.set_cons_zero, List.set_cons_succ]
        rfl
      refine pure_ (i := 1) (N := some 19) (v := ?_) (a' := ?_) #[true, true, false, false, false, false, false, false, false, false, false, false, false, false, false] rfl rfl (by kernel_rfl) (fun _ _ _ h => h) (Or.inl ⟨by rfl, ?_⟩) ?_ ?_
      rotate_left
      · intro w'
        go_simp
        with_reducible rfl
      rotate_left
      · simp only [Act.put, List.setIfInBounds_toArray, List.set_cons_zero, List.set_cons_succ]
        rfl
      refine pure_ (i := 2) (N := some 20) (v := ?_) (a' := ?_) #[true, true, true, false, false, false, false, false, false, false, false, false, false, false, false] rfl rfl (by kernel_rfl) (fun _ _ _ h => h) (Or.inl ⟨by rfl, ?_⟩) ?_ ?_
      rotate_left
      · intro w'
        go_simp
        with_reducible rfl
      rotate_left
      · simp only [Act.put, List.setIfInBounds_toArray, List.set_cons_zero, List.set_cons_succ]
        rfl
      refine pure_ (i := 3) (N := some 21) (v := ?_) (a' := ?_) #[true, true, true, true, false, false, false, false, false, false, false, false, false, false, false] rfl rfl (by kernel_rfl) (fun _ _ _ h => h) (Or.inl ⟨by rfl, ?_⟩) ?_ ?_
      rotate_left
      · intro w'
        go_simp
        with_reducible rfl
      rotate_left
      · simp only [Act.put, List.setIfInBounds_toArray, List.set_cons_zero, List.set_cons_succ]
        rfl
      refine pure_ (i := 6) (N := some 24) (v := ?_) (a' := ?_) #[true, true, true, true, false, false, true, false, false, false, false, false, false, false, false] rfl rfl (by kernel_rfl) (fun _ _ _ h => h) (Or.inl ⟨by rfl, ?_⟩) ?_ ?_
      rotate_left
      · intro w'
        go_simp
        with_reducible rfl
      rotate_left
      · simp only [Act.put, List.setIfInBounds_toArray, List.set_cons_zero, List.set_cons_succ]
        rfl
      refine pure_ (i := 7) (N := some 25) (v := ?_) (a' := ?_) #[true, true, true, true, false, false, true, true, false, false, false, false, false, false, false] rfl rfl (by kernel_rfl) (fun _ _ _ h => h) (Or.inl ⟨by rfl, ?_⟩) ?_ ?_
      rotate_left
      · intro w'
        go_simp
        with_reducible rfl
      rotate_left
      · simp only [Act.put, List.setIfInBounds_toArray, List.set_cons_zero, List.set_cons_succ]
        rfl
      refine pure_ (i := 8) (N := some 26) (v := ?_) (a' := ?_) #[true, true, true, true, false, false, true, true, true, false, false, false, false, false, false] rfl rfl (by kernel_rfl) (fun _ _ _ h => h) (Or.inl ⟨by rfl, ?_⟩) ?_ ?_
      rotate_left
      · intro w'
        go_simp
        with_reducible rfl
      rotate_left
      · simp only [Act.put, List.setIfInBounds_toArray, List.set_cons_zero, List.set_cons_succ]
        rfl
      refine pure_ (i := 9) (N := some 27) (v := ?_) (a' := ?_) #[true, true, true, true, false, false, true, true, true, true, false, false, false, false, false] rfl rfl (by kernel_rfl) (fun _ _ _ h => h) (Or.inl ⟨by rfl, ?_⟩) ?_ ?_
      rotate_left
      · intro w'
        go_simp
        with_reducible rfl
      rotate_left
      · simp only [Act.put, List.setIfInBounds_toArray, List.set_cons_zero, List.set_cons_succ]
        rfl
      refine take_ (i := 10) (N := some 28) (v := ?_) (a' := ?_) #[true, true, true, true, false, false, true, true, true, true, true, false, false, false, false] rfl rfl (by kernel_rfl) (fun _ _ _ h => h) (Or.inl ⟨by rfl, ?_⟩) hHeld ?_ ?_
      rotate_left
      · rintro w' s0
        go_simp
        with_reducible rfl
      rotate_left
      · simp only [Act.put, List.setIfInBounds_toArray, List.set_cons_zero, List.set_cons_succ]
        rfl
      refine one_ (i := 4) (N := some 22) #[true, true, true, true, true, false, true, true, true, true, true, false, false, false, false] rfl rfl (by kernel_rfl) (by decide) (fun K hK => ?_)
      refine value_ (by rfl) rfl (by go_simp; first | done | exact ⟨rfl, rfl⟩ | rfl) ?_
      have HB1 : Below W0.heap.size W0 (W0.alloc (.cells #[.int .i64 0, .int .i64 1] 3)) := below_alloc (Below.refl _ _) _
      have hs1 : ∀ k, k < 2 → (W0.alloc (.cells #[.int .i64 0, .int .i64 1] 3)).cell? ⟨W0.heap.size, k, none⟩ = some (.int .i64 (([0, 1] : List Int).getD k 0)) := fun k hk => by
        rw [blk_cell (blk_new W0 _) k]
        match k, hk with
        | 0, _ => rfl
        | 1, _ => rfl
      generalize (W0.alloc (.cells #[.int .i64 0, .int .i64 1] 3)) = W1 at HB1 hs1 ⊢
      refine hK.out _ _ (keepc HB1 hHeld) (fun hHeld => ?_)
      clear hK K
      refine norm_ (a' := ?_) ?_ ?_
      rotate_left
      · show Act.put _ (some 22) _ = _
        simp only [Act.put, List.setIfInBounds_toArray, List.set_cons_zero, List.set_cons_succ]
        rfl
      refine one_ (i := 5) (N := some 23) #[true, true, true, true, true, true, true, true, true, true, true, false, false, false, false] rfl rfl (by kernel_rfl) (by decide) (fun K hK => ?_)
      refine goes_ Tryz.func36 (by kernel_rfl) rfl #[pt0 g, .slice (some ⟨W0.heap.size, 0, none⟩) 2 2] (by rfl) rfl rfl (by (try simp only [List.map_toArray, List.map_cons, List.map_nil]); first | done | rfl) ?_
      refine (in_any g _ 2 2 W1).mono ?_
      rintro e W2 ⟨i1, j1, rfl, hi1, hj1, HB2⟩
      refine ⟨_, rfl, ?_⟩
      refine hK.out _ _ (keepc HB2 hHeld) (fun hHeld => ?_)
      clear hK K
      refine norm_ (a' := ?_) ?_ ?_
      rotate_left
      · show Act.put _ (some 23) _ = _
        simp only [Act.put, List.setIfInBounds_toArray, List.set_cons_zero, List.set_cons_succ]
        rfl
      refine one_ (i := 11) (N := some 29) #[true, true, true, true, true, true, true, true, true, true, true, true, false, false, false] rfl rfl (by kernel_rfl) (by decide) (fun K hK => ?_)
      refine goes_ Tryz.func37 (by kernel_rfl) rfl #[.string x, .string b.holder] (by rfl) rfl rfl (by (try simp only [List.map_toArray, List.map_cons, List.map_nil]); first | done | rfl) ?_
      refine (is_any x b.holder _).mono ?_
      rintro e W3 ⟨i2, j2, rfl, hi2, hj2, HB3⟩
      refine ⟨_, rfl, ?_⟩
      refine hK.out _ _ (keepc HB3 hHeld) (fun hHeld => ?_)
      clear hK K
      refine norm_ (a' := ?_) ?_ ?_
      rotate_left
      · show Act.put _ (some 29) _ = _
        simp only [Act.put, List.setIfInBounds_toArray, List.set_cons_zero, List.set_cons_succ]
        rfl
      refine one_ (i := 12) (N := some 30) #[true, true, true, true, true, true, true, true, true, true, true, true, true, false, false] rfl rfl (by kernel_rfl) (by decide) (fun K hK => ?_)
      refine value_ (by rfl) rfl (by go_simp; first | done | exact ⟨rfl, rfl⟩ | rfl) ?_
      obtain ⟨L, hL⟩ : ∃ L : List Cond, L = [⟨9, 60, #[pt0 i1, pt0 j1], ([0, 1] : List Int).contains b.state⟩, ⟨8, 62, #[pt0 i2, pt0 j2], x.toList == b.holder.toList⟩] := ⟨_, rfl⟩
      have HB4 : Below W3.heap.size W3 (W3.alloc (.cells #[.int .i64 9, .func (.func 60) #[] #[pt0 i1, pt0 j1], .int .i64 8, .func (.func 62) #[] #[pt0 i2, pt0 j2]] 63)) := below_alloc (Below.refl _ _) _
      have hrow : ∀ (j : Nat) (u : Value), (L.flatMap Cond.cells)[j]? = some u → (W3.alloc (.cells #[.int .i64 9, .func (.func 60) #[] #[pt0 i1, pt0 j1], .int .i64 8, .func (.func 62) #[] #[pt0 i2, pt0 j2]] 63)).cell? ((⟨W3.heap.size, 0, none⟩ : Addr).add j) = some u := fun j u hj => World.news_of_block (blk_new W3 _) j u (by rw [hL] at hj; exact hj)
      generalize W3.alloc (.cells #[.int .i64 9, .func (.func 60) #[] #[pt0 i1, pt0 j1], .int .i64 8, .func (.func 62) #[] #[pt0 i2, pt0 j2]] 63) = W4 at HB4 hrow ⊢
      have HA3 : Below w.heap.size w W3 := below_up (below_up (below_up HW0.out HB1) HB2) HB3
      have HA4 : Below w.heap.size w W4 := below_up HA3 HB4
      refine hK.out _ _ (keepc HB4 hHeld) (fun hHeld => ?_)
      clear hK K
      refine norm_ (a' := ?_) ?_ ?_
      rotate_left
      · show Act.put _ (some 30) _ = _
        simp only [Act.put, List.setIfInBounds_toArray, List.set_cons_zero, List.set_cons_succ]
        rfl
      have hbill4 : IsBill W4 lo g m d b := HB.out.below HA4
      have hcond : ∀ c, c ∈ L → ∀ W', Below W4.heap.size W4 W' → Calls Tryz.prog c.f c.caps W' fun e w'' => e = .returned (.bool c.ok) ∧ Below W'.heap.size W' w'' := by
        intro c hc W' hW'
        rw [hL] at hc
        simp only [List.mem_cons, List.not_mem_nil, or_false] at hc
        rcases hc with rfl | rfl
        · exact in_cond i1 j1 W0.heap.size 2 [0, 1] W' lo g m d b (keepc hW' (keepc HB4 (keepc HB3 hi1))) (by decide) (fun k hk => keepc hW' (keepc HB4 (keepc HB3 (keepc HB2 (hs1 k (by simpa using hk)))))) (keepc hW' (keepc HB4 (keepc HB3 hj1))) (hbill4.below hW')
        · refine (is_cond i2 j2 x b.holder W' (keepc hW' (keepc HB4 hi2)) (keepc hW' (keepc HB4 hj2))).mono ?_
          rintro e w' ⟨rfl, rfl⟩
          exact ⟨rfl, Below.refl _ _⟩
      have hent : ∀ c, c ∈ L → ∀ args W', (callFunc c.f args).run Tryz.prog W' = .ok (.enter c.f args) W' := by
        intro c hc args W'
        rw [hL] at hc
        simp only [List.mem_cons, List.not_mem_nil, or_false] at hc
        rcases hc with rfl | rfl
        · exact enters_of Tryz.func60 (by kernel_rfl) rfl args _
        · exact enters_of Tryz.func62 (by kernel_rfl) rfl args _
      have hne : ∀ c, c ∈ L → c.e ≠ 0 := by intro c hc; rw [hL] at hc; simp only [List.mem_cons, List.not_mem_nil, or_false] at hc; rcases hc with rfl | rfl <;> simp
      have hL3 : L.length = 2 := by rw [hL]; rfl
      have hop := open_any 2 x day hx L (by omega) W3.heap.size W4 lo g m d b hbill4 (Nat.le_trans hlo HA4.size) hrow hcond hne hent
      rw [hL3] at hop
      have hcode : Hid (openCode x day b L = holdCode x day b) := by show _ = _; rw [openCode_chain, hL]; rfl
      refine last_ (i := 13) (N := some 31) #[true, true, true, true, true, true, true, true, true, true, true, true, true, true, false] rfl rfl (by kernel_rfl) (by decide) (fun K hK => ?_)
      refine goes_ Tryz.func35 (by kernel_rfl) rfl #[pt0 g, .string x, .int .i64 day, .slice (some ⟨W3.heap.size, 0, none⟩) 2 2] (by rfl) rfl rfl (by (try simp only [List.map_toArray, List.map_cons, List.map_nil]); first | done | rfl) ?_
      refine (hop).mono ?_
      rintro e W5 ⟨rfl, hbill5, hbel5, hkept5⟩
      refine ⟨_, rfl, ?_⟩
      refine hK.out _ _ ?_
      clear hK K
      refine norm_ (a' := ?_) ?_ ?_
      rotate_left
      · show Act.put _ (some 31) _ = _
        simp only [Act.put, List.setIfInBounds_toArray, List.set_cons_zero, List.set_cons_succ]
        rfl
      rw [hcode.out] at hbill5 ⊢
      refine pure_ (i := 14) (N := some 9) (v := ?_) (a' := ?_) #[true, true, true, true, true, true, true, true, true, true, true, true, true, true, true] rfl rfl (by kernel_rfl) (fun _ _ _ h => h) (Or.inl ⟨by rfl, ?_⟩) ?_ ?_
      rotate_left
      · intro w'
        go_simp
        with_reducible rfl
      rotate_left
      · simp only [Act.put, List.setIfInBounds_toArray, List.set_cons_zero, List.set_cons_succ]
        rfl
      refine done_ (by kernel_rfl) ?_
      have hAL : Aside (Below lo w W5) := Below.trans (HA4.mono hlo) hbel5
      have hAK : Aside (Kept w W5 (fun k => k = g ∨ k = m)) := (Kept.of_below HA4 _).then_ hkept5 (fun k hk => .inl (.inl hk))
      clear hHeld hop hcond hent hne hrow hbill4 hbel5 hkept5 HA3 HA4 HB1 HB2 HB3 HB4 hL3 hL hs1 hi1 hj1 hi2 hj2 HW0 HB
      obtain ⟨code, hcd⟩ : ∃ code, holdCode x day b = code := ⟨_, rfl⟩
      have hcc : Hid (passCode x y day b = code) := hpc.out.trans hcd
      rw [hcd] at hbill5 hcode ⊢
      clear hcd hcode hpc
      by_cases hz : code = 0
      · subst hz
        have hb5 : IsBill W5 lo g m d { b with last := day } := by simpa [lastIf] using hbill5
        have hst : Hid (passSt 0 x y day b = { b with passed := b.passed ++ [x], holder := y, last := day }) := by show _ = _; rw [passSt, if_pos rfl]
        obtain ⟨v0, st, w1, w2, hE, hS, hown2, hgr2⟩ := entry_own hb5.own (string_law Tryz.underlying9) law9 Tryz.underlying59 (z := .bool false) (fun u => by simp [go_sem]) (by show b.passed.length < maxLen; unfold maxLen; omega) (keyOf_bytes x hx) (plainElem_bool Tryz.underlying4 true)
        have h11 : W5.cell? ⟨g, 11, none⟩ = some (.map (some m)) := hb5.cell 11
        have hne := hb5.ne
        have hb2 : w2.heap[g]? = some (.cells (billCells d { b with last := day } m) 61 (0, 0)) := blk_grown hb5.blk hgr2 (by simp; exact hne)
        have h10 : w2.cell? ⟨g, 10, none⟩ = some (.string b.holder) := blk_cell hb2 10
        have hfr : w2.frozen? ⟨g, 10, none⟩ = false := blk_frozen hb2 10
        go_wp2_with fail
        go_ret
        have hbill6 : IsBill w2 lo g m d { b with last := day, passed := b.passed ++ [x] } := by
          refine ⟨hb2, ?_, hb5.log, hb5.lom⟩
          show w2.ownsMap _ _ _ m (b.passed ++ [x]).length (setM (b.passed ++ [x]))
          rw [setM_snoc, List.length_append]
          exact hown2
        refine ⟨by rw [hcc.out]; rfl, ?_, ?_, ?_⟩
        · rw [hcc.out, hst.out]
          exact hbill6.setg (b' := { b with last := day, passed := b.passed ++ [x], holder := y }) 10 (.string y) rfl rfl
        · have hs := hAL.out.size
          exact Below.setCell (hAL.out.grown hgr2 (Nat.le_trans hlo hs) (fun k hk => by cases hk; exact hb5.lom)) hb5.log _
        · exact Kept.setCell (hAK.out.of_grown hgr2 (fun k hk => by cases hk; exact .inl (.inr rfl))) (.inl (.inl rfl)) _
      · have hz0 : (code == 0) = false := by rw [beq_eq_false_iff_ne]; exact hz
        have hst : Hid (passSt code x y day b = b) := by show _ = _; rw [passSt, if_neg hz]
        have hb5 : IsBill W5 lo g m d b := by simpa [lastIf, hz] using hbill5
        go_wp2_with fail
        go_ret
        refine ⟨by rw [hcc.out]; rfl, ?_, hAL.out, hAK.out⟩
        rw [hcc.out, hst.out]
        exact hb5
  · have hn0 : nameB y = false := Bool.eq_false_iff.2 hny
    have hpc : Hid (passCode x y day b = 1) := by show _ = _; rw [passCode, if_neg (fun q => hny q.1)]
    have hps : Hid (passSt 1 x y day b = b) := by show _ = _; rw [passSt, if_neg (by decide)]
    rw [hn0] at hn
    clear hny hn0
    go_enter Tryz.func16, Tryz.ntmps16
    go_wp2_with fail
    refine (hn _).mono ?_
    rintro e w' ⟨rfl, rfl⟩
    go_wp2_with fail
    go_ret
    exact ⟨by rw [hpc.out]; rfl, by rw [hpc.out, hps.out]; exact HB.out, Below.refl _ _, Kept.refl _ _⟩
end Go.Proofs.YtcmjgkmnbenniaaGreatDoor.Ext
