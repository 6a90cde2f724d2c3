/- DraftRises' walk. Written by wip/rises.py. -/
import Derived.Test.YtcmjgkmnbenniaaDue
namespace Go.Proofs.Ytcmjgkmnbenniaa.Ext
open Go.RowKit Go.Maps Go.WideMaps Go.Proofs.YtcmjgkmnbenniaaW.PrintWords Go.Proofs.YtcmjgkmnbenniaaW.PrintLast
theorem next_ge {R : Int → Bool} {s n : Int} (h : NextIs R s n true) : s ≤ n := by
  rcases h with ⟨_, h, _⟩ | ⟨h, _⟩
  · exact h
  · cases h
theorem next_mono {R : Int → Bool} {s s' n a : Int} (h : NextIs R s n true) (h' : NextIs R s' a true) (hs : s ≤ s') : n ≤ a := by
  rcases h with ⟨_, _, _, _, _, h6⟩ | ⟨h, _⟩
  · rcases h' with ⟨_, g2, _, _, g5, _⟩ | ⟨h', _⟩
    · by_cases c : n ≤ a
      · exact c
      · have := h6 a (by omega) (by omega)
        rw [g5] at this
        cases this
    · cases h'
  · cases h
theorem due_yes {C : Cal} {d : Dr} {n : Int} (h : DueIs C d n true) : mayB d = true ∧ NextIs C.rests (d.frm + d.days) n true := by
  rcases h with ⟨_, _, h⟩ | h
  · cases h
  · exact h
set_option maxHeartbeats 16000000 in
set_option maxRecDepth 100000 in
theorem Rises_any (A1 A2 : Option Addr) (c1 c2 : Nat) (l1 l2 : List Int) (d : Dr) (more : Int) (w : World) (h1 : Kd.C (Kd.int .i64) w A1 l1.length l1) (h2 : Kd.C (Kd.int .i64) w A2 l2.length l2) (k1 : l1.length ≤ c1) (k2 : l2.length ≤ c2) :
    Calls Try.prog 7 #[.agg #[.slice A1 l1.length c1, .slice A2 l2.length c2], .agg d.arr, .int .i64 more] w fun e w' => e = .returned (.bool true) ∧ Below w.heap.size w w' := by
  have hu25 := Try.underlying25
  have hu59 := Try.underlying59
  unfold Dr.arr
  obtain ⟨WB, hWB⟩ : ∃ WB, WB = (w.alloc (.cells #[.slice A1 l1.length c1, .slice A2 l2.length c2] 59)).alloc (.cells #[.string d.num, .string d.drawer, .string d.drawee, .string d.payee, .string d.cur, .int .i64 d.amt, .int .i64 d.kind, .int .i64 d.days, .int .i64 d.frm] 25) := ⟨_, rfl⟩
  have hBB : Below w.heap.size w WB := by rw [hWB]; exact (below_alloc (Below.refl _ _) _).alloc (by simp) _
  have b1 : WB.heap[w.heap.size]? = some (.cells #[.slice A1 l1.length c1, .slice A2 l2.length c2] 59 (0, 0)) := by rw [hWB]; exact blk_below (blk_new w _) (below_alloc (Below.refl _ _) _)
  have b2 : WB.heap[w.heap.size + 1]? = some (.cells #[.string d.num, .string d.drawer, .string d.drawee, .string d.payee, .string d.cur, .int .i64 d.amt, .int .i64 d.kind, .int .i64 d.days, .int .i64 d.frm] 25 (0, 0)) := by rw [hWB]; simpa using blk_new (w.alloc (.cells #[.slice A1 l1.length c1, .slice A2 l2.length c2] 59)) (.cells #[.string d.num, .string d.drawer, .string d.drawee, .string d.payee, .string d.cur, .int .i64 d.amt, .int .i64 d.kind, .int .i64 d.days, .int .i64 d.frm] 25)
  have cAw := awake_any WB
  rw [hWB] at cAw
  go_enter Try.func7, Try.ntmps7
  go_wp2_with fail
  refine cAw.mono ?_
  rw [← hWB]
  rintro e w1 ⟨rfl, hB1'⟩
  have hB1 : Below w.heap.size w w1 := below_up hBB hB1'
  have hbc := blk_below b1 hB1'
  have hbox := blk_below b2 hB1'
  clear hB1' hWB hBB b1 b2 cAw
  have q0 : w1.cell? ⟨w.heap.size + 1, 0, none⟩ = some (.string d.num) := (blk_cell hbox 0).trans rfl
  have q1 : w1.cell? ⟨w.heap.size + 1, 1, none⟩ = some (.string d.drawer) := (blk_cell hbox 1).trans rfl
  have q2 : w1.cell? ⟨w.heap.size + 1, 2, none⟩ = some (.string d.drawee) := (blk_cell hbox 2).trans rfl
  have q3 : w1.cell? ⟨w.heap.size + 1, 3, none⟩ = some (.string d.payee) := (blk_cell hbox 3).trans rfl
  have q4 : w1.cell? ⟨w.heap.size + 1, 4, none⟩ = some (.string d.cur) := (blk_cell hbox 4).trans rfl
  have q5 : w1.cell? ⟨w.heap.size + 1, 5, none⟩ = some (.int .i64 d.amt) := (blk_cell hbox 5).trans rfl
  have q6 : w1.cell? ⟨w.heap.size + 1, 6, none⟩ = some (.int .i64 d.kind) := (blk_cell hbox 6).trans rfl
  have q7 : w1.cell? ⟨w.heap.size + 1, 7, none⟩ = some (.int .i64 d.days) := (blk_cell hbox 7).trans rfl
  have q8 : w1.cell? ⟨w.heap.size + 1, 8, none⟩ = some (.int .i64 d.frm) := (blk_cell hbox 8).trans rfl
  have p0 : w1.cell? ⟨w.heap.size, 0, none⟩ = some (.slice A1 l1.length c1) := (blk_cell hbc 0).trans rfl
  have p1 : w1.cell? ⟨w.heap.size, 1, none⟩ = some (.slice A2 l2.length c2) := (blk_cell hbc 1).trans rfl
  obtain ⟨rl, hlf, hshort⟩ := long_case d
  have cL := X.supercargolaw38_long.calls d.num d.drawer d.drawee d.payee d.cur d.amt d.kind d.days d.frm rl w1 hlf
  clear hlf
  cases rl with
  | true =>
    go_wp2_with fail
    refine cL.mono ?_
    rintro e w2 ⟨rfl, hB2⟩
    go_wp2_with fail
    go_ret
    exact ⟨rfl, below_up hB1 hB2⟩
  | false =>
    have hS := hshort rfl
    clear hshort
    go_wp2_with fail
    refine cL.mono ?_
    rintro e w2 ⟨rfl, hB2⟩
    have hB02 := below_up hB1 hB2
    replace hbox := blk_below hbox hB2
    replace hbc := blk_below hbc hB2
    clear q0 q1 q2 q3 q4 q5 q6 q7 q8 p0 p1 cL
    have q0 : w2.cell? ⟨w.heap.size + 1, 0, none⟩ = some (.string d.num) := (blk_cell hbox 0).trans rfl
    have q1 : w2.cell? ⟨w.heap.size + 1, 1, none⟩ = some (.string d.drawer) := (blk_cell hbox 1).trans rfl
    have q2 : w2.cell? ⟨w.heap.size + 1, 2, none⟩ = some (.string d.drawee) := (blk_cell hbox 2).trans rfl
    have q3 : w2.cell? ⟨w.heap.size + 1, 3, none⟩ = some (.string d.payee) := (blk_cell hbox 3).trans rfl
    have q4 : w2.cell? ⟨w.heap.size + 1, 4, none⟩ = some (.string d.cur) := (blk_cell hbox 4).trans rfl
    have q5 : w2.cell? ⟨w.heap.size + 1, 5, none⟩ = some (.int .i64 d.amt) := (blk_cell hbox 5).trans rfl
    have q6 : w2.cell? ⟨w.heap.size + 1, 6, none⟩ = some (.int .i64 d.kind) := (blk_cell hbox 6).trans rfl
    have q7 : w2.cell? ⟨w.heap.size + 1, 7, none⟩ = some (.int .i64 d.days) := (blk_cell hbox 7).trans rfl
    have q8 : w2.cell? ⟨w.heap.size + 1, 8, none⟩ = some (.int .i64 d.frm) := (blk_cell hbox 8).trans rfl
    have p0 : w2.cell? ⟨w.heap.size, 0, none⟩ = some (.slice A1 l1.length c1) := (blk_cell hbc 0).trans rfl
    have p1 : w2.cell? ⟨w.heap.size, 1, none⟩ = some (.slice A2 l2.length c2) := (blk_cell hbc 1).trans rfl
    by_cases t1 : (l1.length : Int) > 20
    · have t1b : decide (20 < (l1.length : Int)) = true := decide_eq_true t1
      have t1c : decide (20 < l1.length) = true := decide_eq_true (by omega)
      clear t1
      go_wp2_with fail
      go_ret
      exact ⟨rfl, hB02⟩
    have t1b : decide (20 < (l1.length : Int)) = false := decide_eq_false t1
    have t1c : decide (20 < l1.length) = false := decide_eq_false (by omega)
    by_cases t2 : (l2.length : Int) > 60
    · have t2b : decide (60 < (l2.length : Int)) = true := decide_eq_true t2
      have t2c : decide (60 < l2.length) = true := decide_eq_true (by omega)
      clear t1 t2
      go_wp2_with fail
      go_ret
      exact ⟨rfl, hB02⟩
    have t2b : decide (60 < (l2.length : Int)) = false := decide_eq_false t2
    have t2c : decide (60 < l2.length) = false := decide_eq_false (by omega)
    have hl1 : l1.length ≤ 20 := by omega
    have hl2 : l2.length ≤ 60 := by omega
    by_cases t3 : more < 0
    · have t3b : decide (more < 0) = true := decide_eq_true t3
      clear t1 t2
      go_wp2_with fail
      go_ret
      exact ⟨rfl, hB02⟩
    have t3b : decide (more < 0) = false := decide_eq_false t3
    by_cases t4 : 1000 < more
    · have t4b : decide (1000 < more) = true := decide_eq_true t4
      clear t1 t2
      go_wp2_with fail
      go_ret
      exact ⟨rfl, hB02⟩
    have t4b : decide (1000 < more) = false := decide_eq_false t4
    obtain ⟨C, B1, B2, d1, d2, HO⟩ := own_any A1 A2 c1 c2 l1 l2 w h1 h2 k1 k2 (by omega) (by omega)
    have cD := Due_any A1 A2 B1 B2 c1 c2 d1 d2 l1 l2 C d hS w w2 HO hB02
    unfold Dr.arr at cD
    clear t1 t2
    go_wp2_with fail
    refine cD.mono ?_
    rintro e W1 ⟨n, ok, rfl, hD1, hB3⟩
    have hB1 := below_up hB02 hB3
    have hbk1 := blk_below hbc hB3
    have hbk2 := blk_below hbox hB3
    clear q0 q1 q2 q3 q4 q5 q6 q7 q8 p0 p1 cD hbox hbc hB02 hB3
    have q0 : W1.cell? ⟨w.heap.size + 1, 0, none⟩ = some (.string d.num) := (blk_cell hbk2 0).trans rfl
    have q1 : W1.cell? ⟨w.heap.size + 1, 1, none⟩ = some (.string d.drawer) := (blk_cell hbk2 1).trans rfl
    have q2 : W1.cell? ⟨w.heap.size + 1, 2, none⟩ = some (.string d.drawee) := (blk_cell hbk2 2).trans rfl
    have q3 : W1.cell? ⟨w.heap.size + 1, 3, none⟩ = some (.string d.payee) := (blk_cell hbk2 3).trans rfl
    have q4 : W1.cell? ⟨w.heap.size + 1, 4, none⟩ = some (.string d.cur) := (blk_cell hbk2 4).trans rfl
    have q5 : W1.cell? ⟨w.heap.size + 1, 5, none⟩ = some (.int .i64 d.amt) := (blk_cell hbk2 5).trans rfl
    have q6 : W1.cell? ⟨w.heap.size + 1, 6, none⟩ = some (.int .i64 d.kind) := (blk_cell hbk2 6).trans rfl
    have q7 : W1.cell? ⟨w.heap.size + 1, 7, none⟩ = some (.int .i64 d.days) := (blk_cell hbk2 7).trans rfl
    have q8 : W1.cell? ⟨w.heap.size + 1, 8, none⟩ = some (.int .i64 d.frm) := (blk_cell hbk2 8).trans rfl
    have p0 : W1.cell? ⟨w.heap.size, 0, none⟩ = some (.slice A1 l1.length c1) := (blk_cell hbk1 0).trans rfl
    have p1 : W1.cell? ⟨w.heap.size, 1, none⟩ = some (.slice A2 l2.length c2) := (blk_cell hbk1 1).trans rfl
    go_wp2_with fail
    refine start_ (n := 6) (S := fun w' => w'.cell? ⟨w.heap.size + 1, 0, none⟩ = some (.string d.num) ∧ w'.cell? ⟨w.heap.size + 1, 1, none⟩ = some (.string d.drawer) ∧ w'.cell? ⟨w.heap.size + 1, 2, none⟩ = some (.string d.drawee) ∧ w'.cell? ⟨w.heap.size + 1, 3, none⟩ = some (.string d.payee) ∧ w'.cell? ⟨w.heap.size + 1, 4, none⟩ = some (.string d.cur) ∧ w'.cell? ⟨w.heap.size + 1, 5, none⟩ = some (.int .i64 d.amt) ∧ w'.cell? ⟨w.heap.size + 1, 6, none⟩ = some (.int .i64 d.kind) ∧ w'.cell? ⟨w.heap.size + 1, 7, none⟩ = some (.int .i64 d.days) ∧ w'.cell? ⟨w.heap.size + 1, 8, none⟩ = some (.int .i64 d.frm)) (ds := []) #[false, false, false, false, false, false] (by kernel_rfl) rfl rfl ?_ (fun hHeld => ?_)
    · exact ⟨q0, q1, q2, q3, q4, q5, q6, q7, q8⟩
    have hBd : Below w.heap.size w W1.drew := below_drew hB1
    have hkd : W1.drew.heap[w.heap.size + 1]? = some (.cells #[.string d.num, .string d.drawer, .string d.drawee, .string d.payee, .string d.cur, .int .i64 d.amt, .int .i64 d.kind, .int .i64 d.days, .int .i64 d.frm] 25 (0, 0)) := hbk2
    have hkc : W1.drew.heap[w.heap.size]? = some (.cells #[.slice A1 l1.length c1, .slice A2 l2.length c2] 59 (0, 0)) := hbk1
    clear q0 q1 q2 q3 q4 q5 q6 q7 q8 hbk1 hbk2 hB1
    generalize W1.drew = W0 at hHeld hBd hkd hkc ⊢
    have hH0 := hHeld
    refine take_ (i := 0) (N := some 45) (v := ?_) (a' := ?_) #[true, false, false, false, false, false] rfl rfl (by kernel_rfl) (fun _ _ _ h => h) (Or.inl ⟨by rfl, ?_⟩) hHeld ?_ ?_
    rotate_left
    · rintro w' ⟨s0, s1, s2, s3, s4, s5, s6, s7, s8⟩
      go_simp
      with_reducible rfl
    rotate_left
    · simp only [Act.put, List.setIfInBounds_toArray, List.set_cons_zero, List.set_cons_succ]
      rfl
    refine take_ (i := 1) (N := some 46) (v := ?_) (a' := ?_) #[true, true, false, false, false, false] rfl rfl (by kernel_rfl) (fun _ _ _ h => h) (Or.inl ⟨by rfl, ?_⟩) hHeld ?_ ?_
    rotate_left
    · rintro w' ⟨s0, s1, s2, s3, s4, s5, s6, s7, s8⟩
      go_simp
      with_reducible rfl
    rotate_left
    · simp only [Act.put, List.setIfInBounds_toArray, List.set_cons_zero, List.set_cons_succ]
      rfl
    refine join_ (σ := Nat × Nat) 2 #[true, true, true, true, false, false] (fun s_ => [(9, .pointer (some ⟨s_.1, 0, none⟩)), (10, .pointer (some ⟨s_.2, 0, none⟩))]) (fun s_ w' => w'.heap[s_.1]? = some (.cells #[.string ⟨#[]⟩, .string ⟨#[]⟩, .string ⟨#[]⟩, .string ⟨#[]⟩, .string ⟨#[]⟩, .int .i64 0, .int .i64 0, .int .i64 0, .int .i64 0] 25 (0, 0)) ∧ w'.heap[s_.2]? = some (.cells #[.string ⟨#[]⟩, .string ⟨#[]⟩, .string ⟨#[]⟩, .string ⟨#[]⟩, .string ⟨#[]⟩, .int .i64 0, .int .i64 0, .int .i64 0, .int .i64 0] 25 (0, 0)) ∧ s_.1 ≠ s_.2 ∧ W0.heap.size ≤ s_.1 ∧ W0.heap.size ≤ s_.2 ∧ Below W0.heap.size W0 w') ?_ ?_
    rotate_left
    · intro hCont
      refine two_ (i := 2) (j := 3) (Ni := some 9) (Nj := some 10) #[true, true, true, false, false, false] #[true, true, false, true, false, false] rfl rfl rfl rfl (by kernel_rfl) (by decide) (by decide) (fun K hK => ?_) (fun K hK => ?_)
      · refine value_ (by rfl) rfl (by go_simp; first | done | exact ⟨rfl, rfl⟩ | rfl) ?_
        have hBa : Below W0.heap.size W0 (W0.alloc (.cells #[.string ⟨#[]⟩, .string ⟨#[]⟩, .string ⟨#[]⟩, .string ⟨#[]⟩, .string ⟨#[]⟩, .int .i64 0, .int .i64 0, .int .i64 0, .int .i64 0] 25)) := below_alloc (Below.refl _ _) _
        have hka := blk_new W0 (.cells #[.string ⟨#[]⟩, .string ⟨#[]⟩, .string ⟨#[]⟩, .string ⟨#[]⟩, .string ⟨#[]⟩, .int .i64 0, .int .i64 0, .int .i64 0, .int .i64 0] 25)
        have hsa : (W0.alloc (.cells #[.string ⟨#[]⟩, .string ⟨#[]⟩, .string ⟨#[]⟩, .string ⟨#[]⟩, .string ⟨#[]⟩, .int .i64 0, .int .i64 0, .int .i64 0, .int .i64 0] 25)).heap.size = W0.heap.size + 1 := by simp
        generalize W0.alloc (.cells #[.string ⟨#[]⟩, .string ⟨#[]⟩, .string ⟨#[]⟩, .string ⟨#[]⟩, .string ⟨#[]⟩, .int .i64 0, .int .i64 0, .int .i64 0, .int .i64 0] 25) = Wa at hBa hka hsa ⊢
        refine hK.out _ _ ⟨keepc hBa hH0.1, keepc hBa hH0.2.1, keepc hBa hH0.2.2.1, keepc hBa hH0.2.2.2.1, keepc hBa hH0.2.2.2.2.1, keepc hBa hH0.2.2.2.2.2.1, keepc hBa hH0.2.2.2.2.2.2.1, keepc hBa hH0.2.2.2.2.2.2.2.1, keepc hBa hH0.2.2.2.2.2.2.2.2⟩ (fun hHeld => ?_)
        clear hK K
        refine norm_ (a' := ?_) ?_ ?_
        rotate_left
        · show Act.put _ (some 9) _ = _
          simp only [Act.put, List.setIfInBounds_toArray, List.set_cons_zero, List.set_cons_succ]
          rfl
        refine one_ (i := 3) (N := some 10) #[true, true, true, true, false, false] rfl rfl (by kernel_rfl) (by decide) (fun K hK => ?_)
        refine value_ (by rfl) rfl (by go_simp; first | done | exact ⟨rfl, rfl⟩ | rfl) ?_
        have hBb : Below Wa.heap.size Wa (Wa.alloc (.cells #[.string ⟨#[]⟩, .string ⟨#[]⟩, .string ⟨#[]⟩, .string ⟨#[]⟩, .string ⟨#[]⟩, .int .i64 0, .int .i64 0, .int .i64 0, .int .i64 0] 25)) := below_alloc (Below.refl _ _) _
        have hkb := blk_new Wa (.cells #[.string ⟨#[]⟩, .string ⟨#[]⟩, .string ⟨#[]⟩, .string ⟨#[]⟩, .string ⟨#[]⟩, .int .i64 0, .int .i64 0, .int .i64 0, .int .i64 0] 25)
        have hBab := below_up hBa hBb
        refine hK.out _ _ ⟨keepc hBab hH0.1, keepc hBab hH0.2.1, keepc hBab hH0.2.2.1, keepc hBab hH0.2.2.2.1, keepc hBab hH0.2.2.2.2.1, keepc hBab hH0.2.2.2.2.2.1, keepc hBab hH0.2.2.2.2.2.2.1, keepc hBab hH0.2.2.2.2.2.2.2.1, keepc hBab hH0.2.2.2.2.2.2.2.2⟩ (fun hHeld => ?_)
        exact norm_ (by simp only [putAll, Act.put, List.setIfInBounds_toArray, List.set_cons_zero, List.set_cons_succ]) (hCont (W0.heap.size, W0.heap.size + 1) _ ⟨blk_below hka hBb, by rw [← hsa]; exact hkb, by show _ ≠ _; simp only; omega, by show _ ≤ _; simp only; omega, by show _ ≤ _; simp only; omega, hBab⟩)
      · refine value_ (by rfl) rfl (by go_simp; first | done | exact ⟨rfl, rfl⟩ | rfl) ?_
        have hBa : Below W0.heap.size W0 (W0.alloc (.cells #[.string ⟨#[]⟩, .string ⟨#[]⟩, .string ⟨#[]⟩, .string ⟨#[]⟩, .string ⟨#[]⟩, .int .i64 0, .int .i64 0, .int .i64 0, .int .i64 0] 25)) := below_alloc (Below.refl _ _) _
        have hka := blk_new W0 (.cells #[.string ⟨#[]⟩, .string ⟨#[]⟩, .string ⟨#[]⟩, .string ⟨#[]⟩, .string ⟨#[]⟩, .int .i64 0, .int .i64 0, .int .i64 0, .int .i64 0] 25)
        have hsa : (W0.alloc (.cells #[.string ⟨#[]⟩, .string ⟨#[]⟩, .string ⟨#[]⟩, .string ⟨#[]⟩, .string ⟨#[]⟩, .int .i64 0, .int .i64 0, .int .i64 0, .int .i64 0] 25)).heap.size = W0.heap.size + 1 := by simp
        generalize W0.alloc (.cells #[.string ⟨#[]⟩, .string ⟨#[]⟩, .string ⟨#[]⟩, .string ⟨#[]⟩, .string ⟨#[]⟩, .int .i64 0, .int .i64 0, .int .i64 0, .int .i64 0] 25) = Wa at hBa hka hsa ⊢
        refine hK.out _ _ ⟨keepc hBa hH0.1, keepc hBa hH0.2.1, keepc hBa hH0.2.2.1, keepc hBa hH0.2.2.2.1, keepc hBa hH0.2.2.2.2.1, keepc hBa hH0.2.2.2.2.2.1, keepc hBa hH0.2.2.2.2.2.2.1, keepc hBa hH0.2.2.2.2.2.2.2.1, keepc hBa hH0.2.2.2.2.2.2.2.2⟩ (fun hHeld => ?_)
        clear hK K
        refine norm_ (a' := ?_) ?_ ?_
        rotate_left
        · show Act.put _ (some 10) _ = _
          simp only [Act.put, List.setIfInBounds_toArray, List.set_cons_zero, List.set_cons_succ]
          rfl
        refine one_ (i := 2) (N := some 9) #[true, true, true, true, false, false] rfl rfl (by kernel_rfl) (by decide) (fun K hK => ?_)
        refine value_ (by rfl) rfl (by go_simp; first | done | exact ⟨rfl, rfl⟩ | rfl) ?_
        have hBb : Below Wa.heap.size Wa (Wa.alloc (.cells #[.string ⟨#[]⟩, .string ⟨#[]⟩, .string ⟨#[]⟩, .string ⟨#[]⟩, .string ⟨#[]⟩, .int .i64 0, .int .i64 0, .int .i64 0, .int .i64 0] 25)) := below_alloc (Below.refl _ _) _
        have hkb := blk_new Wa (.cells #[.string ⟨#[]⟩, .string ⟨#[]⟩, .string ⟨#[]⟩, .string ⟨#[]⟩, .string ⟨#[]⟩, .int .i64 0, .int .i64 0, .int .i64 0, .int .i64 0] 25)
        have hBab := below_up hBa hBb
        refine hK.out _ _ ⟨keepc hBab hH0.1, keepc hBab hH0.2.1, keepc hBab hH0.2.2.1, keepc hBab hH0.2.2.2.1, keepc hBab hH0.2.2.2.2.1, keepc hBab hH0.2.2.2.2.2.1, keepc hBab hH0.2.2.2.2.2.2.1, keepc hBab hH0.2.2.2.2.2.2.2.1, keepc hBab hH0.2.2.2.2.2.2.2.2⟩ (fun hHeld => ?_)
        exact norm_ (by simp only [putAll, Act.put, List.setIfInBounds_toArray, List.set_cons_zero, List.set_cons_succ]) (hCont (W0.heap.size + 1, W0.heap.size) _ ⟨by rw [← hsa]; exact hkb, blk_below hka hBb, by show _ ≠ _; simp only; omega, by show _ ≤ _; simp only; omega, by show _ ≤ _; simp only; omega, hBab⟩)
    rintro ⟨k9, k10⟩ W2 ⟨hk9, hk10, hne, hl9, hl10, hB2⟩
    refine norm_ (a' := ?_) ?_ ?_
    rotate_left
    · simp only [putAll, Act.put, List.setIfInBounds_toArray, List.set_cons_zero, List.set_cons_succ]
      rfl
    replace hk9 : W2.heap[k9]? = some (.cells #[.string ⟨#[]⟩, .string ⟨#[]⟩, .string ⟨#[]⟩, .string ⟨#[]⟩, .string ⟨#[]⟩, .int .i64 0, .int .i64 0, .int .i64 0, .int .i64 0] 25 (0, 0)) := hk9
    replace hk10 : W2.heap[k10]? = some (.cells #[.string ⟨#[]⟩, .string ⟨#[]⟩, .string ⟨#[]⟩, .string ⟨#[]⟩, .string ⟨#[]⟩, .int .i64 0, .int .i64 0, .int .i64 0, .int .i64 0] 25 (0, 0)) := hk10
    replace hne : k9 ≠ k10 := hne
    replace hl9 : W0.heap.size ≤ k9 := hl9
    replace hl10 : W0.heap.size ≤ k10 := hl10
    have hsz0 : w.heap.size + 1 < W0.heap.size := blk_lt hkd
    have hH2 : (W2.cell? ⟨w.heap.size + 1, 0, none⟩ = some (.string d.num) ∧ W2.cell? ⟨w.heap.size + 1, 1, none⟩ = some (.string d.drawer) ∧ W2.cell? ⟨w.heap.size + 1, 2, none⟩ = some (.string d.drawee) ∧ W2.cell? ⟨w.heap.size + 1, 3, none⟩ = some (.string d.payee) ∧ W2.cell? ⟨w.heap.size + 1, 4, none⟩ = some (.string d.cur) ∧ W2.cell? ⟨w.heap.size + 1, 5, none⟩ = some (.int .i64 d.amt) ∧ W2.cell? ⟨w.heap.size + 1, 6, none⟩ = some (.int .i64 d.kind) ∧ W2.cell? ⟨w.heap.size + 1, 7, none⟩ = some (.int .i64 d.days) ∧ W2.cell? ⟨w.heap.size + 1, 8, none⟩ = some (.int .i64 d.frm)) := ⟨keepc hB2 hH0.1, keepc hB2 hH0.2.1, keepc hB2 hH0.2.2.1, keepc hB2 hH0.2.2.2.1, keepc hB2 hH0.2.2.2.2.1, keepc hB2 hH0.2.2.2.2.2.1, keepc hB2 hH0.2.2.2.2.2.2.1, keepc hB2 hH0.2.2.2.2.2.2.2.1, keepc hB2 hH0.2.2.2.2.2.2.2.2⟩
    refine one_ (i := 4) (N := none) #[true, true, true, true, true, false] rfl rfl (by kernel_rfl) (by decide) (fun K hK => ?_)
    have e0 : W2.cell? ⟨k9, 0, none⟩ = some (.string ⟨#[]⟩) := (blk_cell hk9 0).trans rfl
    have e1 : W2.cell? ⟨k9, 1, none⟩ = some (.string ⟨#[]⟩) := (blk_cell hk9 1).trans rfl
    have e2 : W2.cell? ⟨k9, 2, none⟩ = some (.string ⟨#[]⟩) := (blk_cell hk9 2).trans rfl
    have e3 : W2.cell? ⟨k9, 3, none⟩ = some (.string ⟨#[]⟩) := (blk_cell hk9 3).trans rfl
    have e4 : W2.cell? ⟨k9, 4, none⟩ = some (.string ⟨#[]⟩) := (blk_cell hk9 4).trans rfl
    have e5 : W2.cell? ⟨k9, 5, none⟩ = some (.int .i64 0) := (blk_cell hk9 5).trans rfl
    have e6 : W2.cell? ⟨k9, 6, none⟩ = some (.int .i64 0) := (blk_cell hk9 6).trans rfl
    have e7 : W2.cell? ⟨k9, 7, none⟩ = some (.int .i64 0) := (blk_cell hk9 7).trans rfl
    have e8 : W2.cell? ⟨k9, 8, none⟩ = some (.int .i64 0) := (blk_cell hk9 8).trans rfl
    have f0 : W2.frozen? ⟨k9, 0, none⟩ = false := blk_frozen hk9 0
    have f1 : W2.frozen? ⟨k9, 1, none⟩ = false := blk_frozen hk9 1
    have f2 : W2.frozen? ⟨k9, 2, none⟩ = false := blk_frozen hk9 2
    have f3 : W2.frozen? ⟨k9, 3, none⟩ = false := blk_frozen hk9 3
    have f4 : W2.frozen? ⟨k9, 4, none⟩ = false := blk_frozen hk9 4
    have f5 : W2.frozen? ⟨k9, 5, none⟩ = false := blk_frozen hk9 5
    have f6 : W2.frozen? ⟨k9, 6, none⟩ = false := blk_frozen hk9 6
    have f7 : W2.frozen? ⟨k9, 7, none⟩ = false := blk_frozen hk9 7
    have f8 : W2.frozen? ⟨k9, 8, none⟩ = false := blk_frozen hk9 8
    refine skip_ (by rfl) rfl (by go_simp; first | done | exact ⟨rfl, rfl⟩ | rfl) ?_
    have hkn : ((((((((((W2.setCell ⟨k9, 0, none⟩ (.string d.num)).setCell ⟨k9, 1, none⟩ (.string d.drawer)).setCell ⟨k9, 2, none⟩ (.string d.drawee)).setCell ⟨k9, 3, none⟩ (.string d.payee)).setCell ⟨k9, 4, none⟩ (.string d.cur)).setCell ⟨k9, 5, none⟩ (.int .i64 d.amt)).setCell ⟨k9, 6, none⟩ (.int .i64 d.kind)).setCell ⟨k9, 7, none⟩ (.int .i64 d.days)).setCell ⟨k9, 8, none⟩ (.int .i64 d.frm))).heap[k9]? = some (.cells #[.string d.num, .string d.drawer, .string d.drawee, .string d.payee, .string d.cur, .int .i64 d.amt, .int .i64 d.kind, .int .i64 d.days, .int .i64 d.frm] 25 (0, 0)) := by simpa using blk_set (blk_set (blk_set (blk_set (blk_set (blk_set (blk_set (blk_set (blk_set hk9 0 (.string d.num)) 1 (.string d.drawer)) 2 (.string d.drawee)) 3 (.string d.payee)) 4 (.string d.cur)) 5 (.int .i64 d.amt)) 6 (.int .i64 d.kind)) 7 (.int .i64 d.days)) 8 (.int .i64 d.frm)
    have hfarB : ∀ i, i ≠ k9 → ((((((((((W2.setCell ⟨k9, 0, none⟩ (.string d.num)).setCell ⟨k9, 1, none⟩ (.string d.drawer)).setCell ⟨k9, 2, none⟩ (.string d.drawee)).setCell ⟨k9, 3, none⟩ (.string d.payee)).setCell ⟨k9, 4, none⟩ (.string d.cur)).setCell ⟨k9, 5, none⟩ (.int .i64 d.amt)).setCell ⟨k9, 6, none⟩ (.int .i64 d.kind)).setCell ⟨k9, 7, none⟩ (.int .i64 d.days)).setCell ⟨k9, 8, none⟩ (.int .i64 d.frm))).heap[i]? = W2.heap[i]? := fun i hi => by (iterate 9 refine (Below.heap_setCell _ _ _ i hi).trans ?_); rfl
    have hszn : ((((((((((W2.setCell ⟨k9, 0, none⟩ (.string d.num)).setCell ⟨k9, 1, none⟩ (.string d.drawer)).setCell ⟨k9, 2, none⟩ (.string d.drawee)).setCell ⟨k9, 3, none⟩ (.string d.payee)).setCell ⟨k9, 4, none⟩ (.string d.cur)).setCell ⟨k9, 5, none⟩ (.int .i64 d.amt)).setCell ⟨k9, 6, none⟩ (.int .i64 d.kind)).setCell ⟨k9, 7, none⟩ (.int .i64 d.days)).setCell ⟨k9, 8, none⟩ (.int .i64 d.frm))).heap.size = W2.heap.size := by simp [World.setCell]
    have hBn : Below W0.heap.size W0 ((((((((((W2.setCell ⟨k9, 0, none⟩ (.string d.num)).setCell ⟨k9, 1, none⟩ (.string d.drawer)).setCell ⟨k9, 2, none⟩ (.string d.drawee)).setCell ⟨k9, 3, none⟩ (.string d.payee)).setCell ⟨k9, 4, none⟩ (.string d.cur)).setCell ⟨k9, 5, none⟩ (.int .i64 d.amt)).setCell ⟨k9, 6, none⟩ (.int .i64 d.kind)).setCell ⟨k9, 7, none⟩ (.int .i64 d.days)).setCell ⟨k9, 8, none⟩ (.int .i64 d.frm))) := (((((((((hB2.setCell hl9 _).setCell hl9 _).setCell hl9 _).setCell hl9 _).setCell hl9 _).setCell hl9 _).setCell hl9 _).setCell hl9 _).setCell hl9 _)
    clear e0 e1 e2 e3 e4 e5 e6 e7 e8 f0 f1 f2 f3 f4 f5 f6 f7 f8
    generalize (((((((((W2.setCell ⟨k9, 0, none⟩ (.string d.num)).setCell ⟨k9, 1, none⟩ (.string d.drawer)).setCell ⟨k9, 2, none⟩ (.string d.drawee)).setCell ⟨k9, 3, none⟩ (.string d.payee)).setCell ⟨k9, 4, none⟩ (.string d.cur)).setCell ⟨k9, 5, none⟩ (.int .i64 d.amt)).setCell ⟨k9, 6, none⟩ (.int .i64 d.kind)).setCell ⟨k9, 7, none⟩ (.int .i64 d.days)).setCell ⟨k9, 8, none⟩ (.int .i64 d.frm)) = W3 at hkn hfarB hszn hBn ⊢
    refine hK.out _ _ ⟨keepc hBn hH0.1, keepc hBn hH0.2.1, keepc hBn hH0.2.2.1, keepc hBn hH0.2.2.2.1, keepc hBn hH0.2.2.2.2.1, keepc hBn hH0.2.2.2.2.2.1, keepc hBn hH0.2.2.2.2.2.2.1, keepc hBn hH0.2.2.2.2.2.2.2.1, keepc hBn hH0.2.2.2.2.2.2.2.2⟩ (fun hHeld => ?_)
    clear hK K hHeld
    have hq9 := hkn
    have hq10 : W3.heap[k10]? = some (.cells #[.string ⟨#[]⟩, .string ⟨#[]⟩, .string ⟨#[]⟩, .string ⟨#[]⟩, .string ⟨#[]⟩, .int .i64 0, .int .i64 0, .int .i64 0, .int .i64 0] 25 (0, 0)) := (hfarB k10 (Ne.symm hne)).trans hk10
    have hB3 := hBn
    clear hkn hfarB hBn hk9 hk10 hszn
    refine one_ (i := 5) (N := none) #[true, true, true, true, true, true] rfl rfl (by kernel_rfl) (by decide) (fun K hK => ?_)
    have e0 : W3.cell? ⟨k10, 0, none⟩ = some (.string ⟨#[]⟩) := (blk_cell hq10 0).trans rfl
    have e1 : W3.cell? ⟨k10, 1, none⟩ = some (.string ⟨#[]⟩) := (blk_cell hq10 1).trans rfl
    have e2 : W3.cell? ⟨k10, 2, none⟩ = some (.string ⟨#[]⟩) := (blk_cell hq10 2).trans rfl
    have e3 : W3.cell? ⟨k10, 3, none⟩ = some (.string ⟨#[]⟩) := (blk_cell hq10 3).trans rfl
    have e4 : W3.cell? ⟨k10, 4, none⟩ = some (.string ⟨#[]⟩) := (blk_cell hq10 4).trans rfl
    have e5 : W3.cell? ⟨k10, 5, none⟩ = some (.int .i64 0) := (blk_cell hq10 5).trans rfl
    have e6 : W3.cell? ⟨k10, 6, none⟩ = some (.int .i64 0) := (blk_cell hq10 6).trans rfl
    have e7 : W3.cell? ⟨k10, 7, none⟩ = some (.int .i64 0) := (blk_cell hq10 7).trans rfl
    have e8 : W3.cell? ⟨k10, 8, none⟩ = some (.int .i64 0) := (blk_cell hq10 8).trans rfl
    have f0 : W3.frozen? ⟨k10, 0, none⟩ = false := blk_frozen hq10 0
    have f1 : W3.frozen? ⟨k10, 1, none⟩ = false := blk_frozen hq10 1
    have f2 : W3.frozen? ⟨k10, 2, none⟩ = false := blk_frozen hq10 2
    have f3 : W3.frozen? ⟨k10, 3, none⟩ = false := blk_frozen hq10 3
    have f4 : W3.frozen? ⟨k10, 4, none⟩ = false := blk_frozen hq10 4
    have f5 : W3.frozen? ⟨k10, 5, none⟩ = false := blk_frozen hq10 5
    have f6 : W3.frozen? ⟨k10, 6, none⟩ = false := blk_frozen hq10 6
    have f7 : W3.frozen? ⟨k10, 7, none⟩ = false := blk_frozen hq10 7
    have f8 : W3.frozen? ⟨k10, 8, none⟩ = false := blk_frozen hq10 8
    refine skip_ (by rfl) rfl (by go_simp; first | done | exact ⟨rfl, rfl⟩ | rfl) ?_
    have hkn : ((((((((((W3.setCell ⟨k10, 0, none⟩ (.string d.num)).setCell ⟨k10, 1, none⟩ (.string d.drawer)).setCell ⟨k10, 2, none⟩ (.string d.drawee)).setCell ⟨k10, 3, none⟩ (.string d.payee)).setCell ⟨k10, 4, none⟩ (.string d.cur)).setCell ⟨k10, 5, none⟩ (.int .i64 d.amt)).setCell ⟨k10, 6, none⟩ (.int .i64 d.kind)).setCell ⟨k10, 7, none⟩ (.int .i64 d.days)).setCell ⟨k10, 8, none⟩ (.int .i64 d.frm))).heap[k10]? = some (.cells #[.string d.num, .string d.drawer, .string d.drawee, .string d.payee, .string d.cur, .int .i64 d.amt, .int .i64 d.kind, .int .i64 d.days, .int .i64 d.frm] 25 (0, 0)) := by simpa using blk_set (blk_set (blk_set (blk_set (blk_set (blk_set (blk_set (blk_set (blk_set hq10 0 (.string d.num)) 1 (.string d.drawer)) 2 (.string d.drawee)) 3 (.string d.payee)) 4 (.string d.cur)) 5 (.int .i64 d.amt)) 6 (.int .i64 d.kind)) 7 (.int .i64 d.days)) 8 (.int .i64 d.frm)
    have hfarB : ∀ i, i ≠ k10 → ((((((((((W3.setCell ⟨k10, 0, none⟩ (.string d.num)).setCell ⟨k10, 1, none⟩ (.string d.drawer)).setCell ⟨k10, 2, none⟩ (.string d.drawee)).setCell ⟨k10, 3, none⟩ (.string d.payee)).setCell ⟨k10, 4, none⟩ (.string d.cur)).setCell ⟨k10, 5, none⟩ (.int .i64 d.amt)).setCell ⟨k10, 6, none⟩ (.int .i64 d.kind)).setCell ⟨k10, 7, none⟩ (.int .i64 d.days)).setCell ⟨k10, 8, none⟩ (.int .i64 d.frm))).heap[i]? = W3.heap[i]? := fun i hi => by (iterate 9 refine (Below.heap_setCell _ _ _ i hi).trans ?_); rfl
    have hszn : ((((((((((W3.setCell ⟨k10, 0, none⟩ (.string d.num)).setCell ⟨k10, 1, none⟩ (.string d.drawer)).setCell ⟨k10, 2, none⟩ (.string d.drawee)).setCell ⟨k10, 3, none⟩ (.string d.payee)).setCell ⟨k10, 4, none⟩ (.string d.cur)).setCell ⟨k10, 5, none⟩ (.int .i64 d.amt)).setCell ⟨k10, 6, none⟩ (.int .i64 d.kind)).setCell ⟨k10, 7, none⟩ (.int .i64 d.days)).setCell ⟨k10, 8, none⟩ (.int .i64 d.frm))).heap.size = W3.heap.size := by simp [World.setCell]
    have hBn : Below W0.heap.size W0 ((((((((((W3.setCell ⟨k10, 0, none⟩ (.string d.num)).setCell ⟨k10, 1, none⟩ (.string d.drawer)).setCell ⟨k10, 2, none⟩ (.string d.drawee)).setCell ⟨k10, 3, none⟩ (.string d.payee)).setCell ⟨k10, 4, none⟩ (.string d.cur)).setCell ⟨k10, 5, none⟩ (.int .i64 d.amt)).setCell ⟨k10, 6, none⟩ (.int .i64 d.kind)).setCell ⟨k10, 7, none⟩ (.int .i64 d.days)).setCell ⟨k10, 8, none⟩ (.int .i64 d.frm))) := (((((((((hB3.setCell hl10 _).setCell hl10 _).setCell hl10 _).setCell hl10 _).setCell hl10 _).setCell hl10 _).setCell hl10 _).setCell hl10 _).setCell hl10 _)
    clear e0 e1 e2 e3 e4 e5 e6 e7 e8 f0 f1 f2 f3 f4 f5 f6 f7 f8
    generalize (((((((((W3.setCell ⟨k10, 0, none⟩ (.string d.num)).setCell ⟨k10, 1, none⟩ (.string d.drawer)).setCell ⟨k10, 2, none⟩ (.string d.drawee)).setCell ⟨k10, 3, none⟩ (.string d.payee)).setCell ⟨k10, 4, none⟩ (.string d.cur)).setCell ⟨k10, 5, none⟩ (.int .i64 d.amt)).setCell ⟨k10, 6, none⟩ (.int .i64 d.kind)).setCell ⟨k10, 7, none⟩ (.int .i64 d.days)).setCell ⟨k10, 8, none⟩ (.int .i64 d.frm)) = W4 at hkn hfarB hszn hBn ⊢
    refine hK.out _ _ ⟨keepc hBn hH0.1, keepc hBn hH0.2.1, keepc hBn hH0.2.2.1, keepc hBn hH0.2.2.2.1, keepc hBn hH0.2.2.2.2.1, keepc hBn hH0.2.2.2.2.2.1, keepc hBn hH0.2.2.2.2.2.2.1, keepc hBn hH0.2.2.2.2.2.2.2.1, keepc hBn hH0.2.2.2.2.2.2.2.2⟩ (fun hHeld => ?_)
    clear hK K hHeld
    have hr9 : W4.heap[k9]? = some (.cells #[.string d.num, .string d.drawer, .string d.drawee, .string d.payee, .string d.cur, .int .i64 d.amt, .int .i64 d.kind, .int .i64 d.days, .int .i64 d.frm] 25 (0, 0)) := (hfarB k9 hne).trans hq9
    have hr10 := hkn
    have hB4 := hBn
    clear hkn hfarB hBn hq9 hq10 hszn
    refine done_ (by kernel_rfl) ?_
    have hBw4 : Below w.heap.size w W4 := below_up hBd hB4
    have hkd4 := blk_below hkd hB4
    have hkc4 := blk_below hkc hB4
    clear hBd hB4 hkd hkc hB2 hB3 hH0 hH2
    have q0 : W4.cell? ⟨w.heap.size + 1, 0, none⟩ = some (.string d.num) := (blk_cell hkd4 0).trans rfl
    have q1 : W4.cell? ⟨w.heap.size + 1, 1, none⟩ = some (.string d.drawer) := (blk_cell hkd4 1).trans rfl
    have q2 : W4.cell? ⟨w.heap.size + 1, 2, none⟩ = some (.string d.drawee) := (blk_cell hkd4 2).trans rfl
    have q3 : W4.cell? ⟨w.heap.size + 1, 3, none⟩ = some (.string d.payee) := (blk_cell hkd4 3).trans rfl
    have q4 : W4.cell? ⟨w.heap.size + 1, 4, none⟩ = some (.string d.cur) := (blk_cell hkd4 4).trans rfl
    have q5 : W4.cell? ⟨w.heap.size + 1, 5, none⟩ = some (.int .i64 d.amt) := (blk_cell hkd4 5).trans rfl
    have q6 : W4.cell? ⟨w.heap.size + 1, 6, none⟩ = some (.int .i64 d.kind) := (blk_cell hkd4 6).trans rfl
    have q7 : W4.cell? ⟨w.heap.size + 1, 7, none⟩ = some (.int .i64 d.days) := (blk_cell hkd4 7).trans rfl
    have q8 : W4.cell? ⟨w.heap.size + 1, 8, none⟩ = some (.int .i64 d.frm) := (blk_cell hkd4 8).trans rfl
    have p0 : W4.cell? ⟨w.heap.size, 0, none⟩ = some (.slice A1 l1.length c1) := (blk_cell hkc4 0).trans rfl
    have p1 : W4.cell? ⟨w.heap.size, 1, none⟩ = some (.slice A2 l2.length c2) := (blk_cell hkc4 1).trans rfl
    have g6 : W4.cell? ⟨k10, 6, none⟩ = some (.int .i64 d.kind) := (blk_cell hr10 6).trans rfl
    have fA : W4.frozen? ⟨k9, 8, none⟩ = false := blk_frozen hr9 8
    have fB : W4.frozen? ⟨k10, 7, none⟩ = false := blk_frozen hr10 7
    have hsz4 : w.heap.size + 1 < W0.heap.size := hsz0
    have le9 : w.heap.size ≤ k9 := by omega
    have le10 : w.heap.size ≤ k10 := by omega
    cases ok with
    | false =>
      have y0 : W4.cell? ⟨k9, 0, none⟩ = some (.string d.num) := (blk_cell hr9 0).trans rfl
      have y1 : W4.cell? ⟨k9, 1, none⟩ = some (.string d.drawer) := (blk_cell hr9 1).trans rfl
      have y2 : W4.cell? ⟨k9, 2, none⟩ = some (.string d.drawee) := (blk_cell hr9 2).trans rfl
      have y3 : W4.cell? ⟨k9, 3, none⟩ = some (.string d.payee) := (blk_cell hr9 3).trans rfl
      have y4 : W4.cell? ⟨k9, 4, none⟩ = some (.string d.cur) := (blk_cell hr9 4).trans rfl
      have y5 : W4.cell? ⟨k9, 5, none⟩ = some (.int .i64 d.amt) := (blk_cell hr9 5).trans rfl
      have y6 : W4.cell? ⟨k9, 6, none⟩ = some (.int .i64 d.kind) := (blk_cell hr9 6).trans rfl
      have y7 : W4.cell? ⟨k9, 7, none⟩ = some (.int .i64 d.days) := (blk_cell hr9 7).trans rfl
      have y8 : W4.cell? ⟨k9, 8, none⟩ = some (.int .i64 d.frm) := (blk_cell hr9 8).trans rfl
      have z0 : W4.cell? ⟨k10, 0, none⟩ = some (.string d.num) := (blk_cell hr10 0).trans rfl
      have z1 : W4.cell? ⟨k10, 1, none⟩ = some (.string d.drawer) := (blk_cell hr10 1).trans rfl
      have z2 : W4.cell? ⟨k10, 2, none⟩ = some (.string d.drawee) := (blk_cell hr10 2).trans rfl
      have z3 : W4.cell? ⟨k10, 3, none⟩ = some (.string d.payee) := (blk_cell hr10 3).trans rfl
      have z4 : W4.cell? ⟨k10, 4, none⟩ = some (.string d.cur) := (blk_cell hr10 4).trans rfl
      have z5 : W4.cell? ⟨k10, 5, none⟩ = some (.int .i64 d.amt) := (blk_cell hr10 5).trans rfl
      have z6 : W4.cell? ⟨k10, 6, none⟩ = some (.int .i64 d.kind) := (blk_cell hr10 6).trans rfl
      have z7 : W4.cell? ⟨k10, 7, none⟩ = some (.int .i64 d.days) := (blk_cell hr10 7).trans rfl
      have z8 : W4.cell? ⟨k10, 8, none⟩ = some (.int .i64 d.frm) := (blk_cell hr10 8).trans rfl
      have n1 : w.heap.size ≠ k9 := by omega
      have n2 : w.heap.size ≠ k10 := by omega
      have n3 : w.heap.size + 1 ≠ k9 := by omega
      have n4 : w.heap.size + 1 ≠ k10 := by omega
      have n5 := Ne.symm hne
      go_wp2_with fail
      go_ret
      exact ⟨rfl, (hBw4.setCell le9 _).setCell le10 _⟩
    | true =>
      have y0 : W4.cell? ⟨k9, 0, none⟩ = some (.string d.num) := (blk_cell hr9 0).trans rfl
      have y1 : W4.cell? ⟨k9, 1, none⟩ = some (.string d.drawer) := (blk_cell hr9 1).trans rfl
      have y2 : W4.cell? ⟨k9, 2, none⟩ = some (.string d.drawee) := (blk_cell hr9 2).trans rfl
      have y3 : W4.cell? ⟨k9, 3, none⟩ = some (.string d.payee) := (blk_cell hr9 3).trans rfl
      have y4 : W4.cell? ⟨k9, 4, none⟩ = some (.string d.cur) := (blk_cell hr9 4).trans rfl
      have y5 : W4.cell? ⟨k9, 5, none⟩ = some (.int .i64 d.amt) := (blk_cell hr9 5).trans rfl
      have y6 : W4.cell? ⟨k9, 6, none⟩ = some (.int .i64 d.kind) := (blk_cell hr9 6).trans rfl
      have y7 : W4.cell? ⟨k9, 7, none⟩ = some (.int .i64 d.days) := (blk_cell hr9 7).trans rfl
      have y8 : W4.cell? ⟨k9, 8, none⟩ = some (.int .i64 d.frm) := (blk_cell hr9 8).trans rfl
      have z0 : W4.cell? ⟨k10, 0, none⟩ = some (.string d.num) := (blk_cell hr10 0).trans rfl
      have z1 : W4.cell? ⟨k10, 1, none⟩ = some (.string d.drawer) := (blk_cell hr10 1).trans rfl
      have z2 : W4.cell? ⟨k10, 2, none⟩ = some (.string d.drawee) := (blk_cell hr10 2).trans rfl
      have z3 : W4.cell? ⟨k10, 3, none⟩ = some (.string d.payee) := (blk_cell hr10 3).trans rfl
      have z4 : W4.cell? ⟨k10, 4, none⟩ = some (.string d.cur) := (blk_cell hr10 4).trans rfl
      have z5 : W4.cell? ⟨k10, 5, none⟩ = some (.int .i64 d.amt) := (blk_cell hr10 5).trans rfl
      have z6 : W4.cell? ⟨k10, 6, none⟩ = some (.int .i64 d.kind) := (blk_cell hr10 6).trans rfl
      have z7 : W4.cell? ⟨k10, 7, none⟩ = some (.int .i64 d.days) := (blk_cell hr10 7).trans rfl
      have z8 : W4.cell? ⟨k10, 8, none⟩ = some (.int .i64 d.frm) := (blk_cell hr10 8).trans rfl
      have n1 : w.heap.size ≠ k9 := by omega
      have n2 : w.heap.size ≠ k10 := by omega
      have n3 : w.heap.size + 1 ≠ k9 := by omega
      have n4 : w.heap.size + 1 ≠ k10 := by omega
      have n5 := Ne.symm hne
      obtain ⟨hm, hN⟩ := due_yes hD1
      have hfd := may_days hm
      obtain ⟨_, _, _, _, _, f6, f7, _⟩ := may_facts hm
      have wr1 : wrap64 (d.frm + more) = d.frm + more := w64 (by omega) (by omega)
      have wr2 : wrap64 (d.days + more) = d.days + more := w64 (by omega) (by omega)
      have wr3 : wrap64 (d.frm + d.days) = d.frm + d.days := w64 (by omega) (by omega)
      have wr4 : wrap64 (d.frm + more + d.days) = d.frm + more + d.days := w64 (by omega) (by omega)
      have t5 : decide (1048576 < d.frm) = false := decide_eq_false (by omega)
      have u1 : decide (d.frm + d.days ≤ n) = true := decide_eq_true (next_ge hN)
      obtain ⟨W5, hW5⟩ : ∃ W5, W5 = (W4.setCell ⟨k9, 8, none⟩ (.int .i64 (d.frm + more))).setCell ⟨k10, 7, none⟩ (.int .i64 (d.days + more)) := ⟨_, rfl⟩
      have hB5 : Below w.heap.size w W5 := by rw [hW5]; exact (hBw4.setCell le9 _).setCell le10 _
      have far : ∀ i, i ≠ k9 → i ≠ k10 → W5.heap[i]? = W4.heap[i]? := fun i g1 g2 => by rw [hW5]; exact (Below.heap_setCell _ _ _ i g2).trans (Below.heap_setCell _ _ _ i g1)
      have c5 : W5.heap[w.heap.size]? = some (.cells #[.slice A1 l1.length c1, .slice A2 l2.length c2] 59 (0, 0)) := (far _ (by omega) (by omega)).trans hkc4
      have d5 : W5.heap[w.heap.size + 1]? = some (.cells #[.string d.num, .string d.drawer, .string d.drawee, .string d.payee, .string d.cur, .int .i64 d.amt, .int .i64 d.kind, .int .i64 d.days, .int .i64 d.frm] 25 (0, 0)) := (far _ (by omega) (by omega)).trans hkd4
      have bx5 : W5.heap[k9]? = some (.cells #[.string d.num, .string d.drawer, .string d.drawee, .string d.payee, .string d.cur, .int .i64 d.amt, .int .i64 d.kind, .int .i64 d.days, .int .i64 (d.frm + more)] 25 (0, 0)) := by
        rw [hW5]
        refine (Below.heap_setCell _ _ _ k9 hne).trans ?_
        simpa using blk_set hr9 8 (.int .i64 (d.frm + more))
      have by5 : W5.heap[k10]? = some (.cells #[.string d.num, .string d.drawer, .string d.drawee, .string d.payee, .string d.cur, .int .i64 d.amt, .int .i64 d.kind, .int .i64 (d.days + more), .int .i64 d.frm] 25 (0, 0)) := by
        rw [hW5]
        have : (W4.setCell ⟨k9, 8, none⟩ (.int .i64 (d.frm + more))).heap[k10]? = some (.cells #[.string d.num, .string d.drawer, .string d.drawee, .string d.payee, .string d.cur, .int .i64 d.amt, .int .i64 d.kind, .int .i64 d.days, .int .i64 d.frm] 25 (0, 0)) := (Below.heap_setCell _ _ _ k10 (Ne.symm hne)).trans hr10
        simpa using blk_set this 7 (.int .i64 (d.days + more))
      clear far
      have HD1 := Aside0.mk hN
      have cX : Calls Try.prog 27 #[.agg #[.slice A1 l1.length c1, .slice A2 l2.length c2], .agg #[.string d.num, .string d.drawer, .string d.drawee, .string d.payee, .string d.cur, .int .i64 d.amt, .int .i64 d.kind, .int .i64 d.days, .int .i64 (d.frm + more)]] W5 (DuePost C { d with frm := d.frm + more } W5) := Due_any A1 A2 B1 B2 c1 c2 d1 d2 l1 l2 C { d with frm := d.frm + more } ⟨hS.h1, hS.h2, hS.h3, hS.h4⟩ w W5 HO hB5
      rw [hW5] at cX
      clear hN hm hD1
      go_wp2_with fail
      refine cX.mono ?_
      rw [← hW5]
      rintro e W6 ⟨a, x, rfl, hD2, hB6⟩
      have hBw6 := below_up hB5 hB6
      replace c5 := blk_below c5 hB6
      replace d5 := blk_below d5 hB6
      replace bx5 := blk_below bx5 hB6
      replace by5 := blk_below by5 hB6
      clear y0 z0 y1 z1 y2 z2 y3 z3 y4 z4 y5 z5 y6 z6 y7 z7 y8 z8 hW5 hB5 hB6 cX fA fB g6 hr9 hr10 hkd4 hkc4 hBw4 q0 q1 q2 q3 q4 q5 q6 q7 q8 p0 p1
      have q0 : W6.cell? ⟨w.heap.size + 1, 0, none⟩ = some (.string d.num) := (blk_cell d5 0).trans rfl
      have q1 : W6.cell? ⟨w.heap.size + 1, 1, none⟩ = some (.string d.drawer) := (blk_cell d5 1).trans rfl
      have q2 : W6.cell? ⟨w.heap.size + 1, 2, none⟩ = some (.string d.drawee) := (blk_cell d5 2).trans rfl
      have q3 : W6.cell? ⟨w.heap.size + 1, 3, none⟩ = some (.string d.payee) := (blk_cell d5 3).trans rfl
      have q4 : W6.cell? ⟨w.heap.size + 1, 4, none⟩ = some (.string d.cur) := (blk_cell d5 4).trans rfl
      have q5 : W6.cell? ⟨w.heap.size + 1, 5, none⟩ = some (.int .i64 d.amt) := (blk_cell d5 5).trans rfl
      have q6 : W6.cell? ⟨w.heap.size + 1, 6, none⟩ = some (.int .i64 d.kind) := (blk_cell d5 6).trans rfl
      have q7 : W6.cell? ⟨w.heap.size + 1, 7, none⟩ = some (.int .i64 d.days) := (blk_cell d5 7).trans rfl
      have q8 : W6.cell? ⟨w.heap.size + 1, 8, none⟩ = some (.int .i64 d.frm) := (blk_cell d5 8).trans rfl
      have y0 : W6.cell? ⟨k9, 0, none⟩ = some (.string d.num) := (blk_cell bx5 0).trans rfl
      have y1 : W6.cell? ⟨k9, 1, none⟩ = some (.string d.drawer) := (blk_cell bx5 1).trans rfl
      have y2 : W6.cell? ⟨k9, 2, none⟩ = some (.string d.drawee) := (blk_cell bx5 2).trans rfl
      have y3 : W6.cell? ⟨k9, 3, none⟩ = some (.string d.payee) := (blk_cell bx5 3).trans rfl
      have y4 : W6.cell? ⟨k9, 4, none⟩ = some (.string d.cur) := (blk_cell bx5 4).trans rfl
      have y5 : W6.cell? ⟨k9, 5, none⟩ = some (.int .i64 d.amt) := (blk_cell bx5 5).trans rfl
      have y6 : W6.cell? ⟨k9, 6, none⟩ = some (.int .i64 d.kind) := (blk_cell bx5 6).trans rfl
      have y7 : W6.cell? ⟨k9, 7, none⟩ = some (.int .i64 d.days) := (blk_cell bx5 7).trans rfl
      have y8 : W6.cell? ⟨k9, 8, none⟩ = some (.int .i64 (d.frm + more)) := (blk_cell bx5 8).trans rfl
      have z0 : W6.cell? ⟨k10, 0, none⟩ = some (.string d.num) := (blk_cell by5 0).trans rfl
      have z1 : W6.cell? ⟨k10, 1, none⟩ = some (.string d.drawer) := (blk_cell by5 1).trans rfl
      have z2 : W6.cell? ⟨k10, 2, none⟩ = some (.string d.drawee) := (blk_cell by5 2).trans rfl
      have z3 : W6.cell? ⟨k10, 3, none⟩ = some (.string d.payee) := (blk_cell by5 3).trans rfl
      have z4 : W6.cell? ⟨k10, 4, none⟩ = some (.string d.cur) := (blk_cell by5 4).trans rfl
      have z5 : W6.cell? ⟨k10, 5, none⟩ = some (.int .i64 d.amt) := (blk_cell by5 5).trans rfl
      have z6 : W6.cell? ⟨k10, 6, none⟩ = some (.int .i64 d.kind) := (blk_cell by5 6).trans rfl
      have z7 : W6.cell? ⟨k10, 7, none⟩ = some (.int .i64 (d.days + more)) := (blk_cell by5 7).trans rfl
      have z8 : W6.cell? ⟨k10, 8, none⟩ = some (.int .i64 d.frm) := (blk_cell by5 8).trans rfl
      have p0 : W6.cell? ⟨w.heap.size, 0, none⟩ = some (.slice A1 l1.length c1) := (blk_cell c5 0).trans rfl
      have p1 : W6.cell? ⟨w.heap.size, 1, none⟩ = some (.slice A2 l2.length c2) := (blk_cell c5 1).trans rfl
      have cY : Calls Try.prog 27 #[.agg #[.slice A1 l1.length c1, .slice A2 l2.length c2], .agg #[.string d.num, .string d.drawer, .string d.drawee, .string d.payee, .string d.cur, .int .i64 d.amt, .int .i64 d.kind, .int .i64 (d.days + more), .int .i64 d.frm]] W6 (DuePost C { d with days := d.days + more } W6) := Due_any A1 A2 B1 B2 c1 c2 d1 d2 l1 l2 C { d with days := d.days + more } ⟨hS.h1, hS.h2, hS.h3, hS.h4⟩ w W6 HO hBw6
      go_wp2_with fail
      refine cY.mono ?_
      rintro e W7 ⟨b2, y, rfl, hD3, hB7⟩
      have hBw7 := below_up hBw6 hB7
      replace d5 := blk_below d5 hB7
      replace bx5 := blk_below bx5 hB7
      clear q0 y0 z0 q1 y1 z1 q2 y2 z2 q3 y3 z3 q4 y4 z4 q5 y5 z5 q6 y6 z6 q7 y7 z7 q8 y8 z8 p0 p1 cY hB7 hBw6 by5 c5
      have q0 : W7.cell? ⟨w.heap.size + 1, 0, none⟩ = some (.string d.num) := (blk_cell d5 0).trans rfl
      have q1 : W7.cell? ⟨w.heap.size + 1, 1, none⟩ = some (.string d.drawer) := (blk_cell d5 1).trans rfl
      have q2 : W7.cell? ⟨w.heap.size + 1, 2, none⟩ = some (.string d.drawee) := (blk_cell d5 2).trans rfl
      have q3 : W7.cell? ⟨w.heap.size + 1, 3, none⟩ = some (.string d.payee) := (blk_cell d5 3).trans rfl
      have q4 : W7.cell? ⟨w.heap.size + 1, 4, none⟩ = some (.string d.cur) := (blk_cell d5 4).trans rfl
      have q5 : W7.cell? ⟨w.heap.size + 1, 5, none⟩ = some (.int .i64 d.amt) := (blk_cell d5 5).trans rfl
      have q6 : W7.cell? ⟨w.heap.size + 1, 6, none⟩ = some (.int .i64 d.kind) := (blk_cell d5 6).trans rfl
      have q7 : W7.cell? ⟨w.heap.size + 1, 7, none⟩ = some (.int .i64 d.days) := (blk_cell d5 7).trans rfl
      have q8 : W7.cell? ⟨w.heap.size + 1, 8, none⟩ = some (.int .i64 d.frm) := (blk_cell d5 8).trans rfl
      have y0 : W7.cell? ⟨k9, 0, none⟩ = some (.string d.num) := (blk_cell bx5 0).trans rfl
      have y1 : W7.cell? ⟨k9, 1, none⟩ = some (.string d.drawer) := (blk_cell bx5 1).trans rfl
      have y2 : W7.cell? ⟨k9, 2, none⟩ = some (.string d.drawee) := (blk_cell bx5 2).trans rfl
      have y3 : W7.cell? ⟨k9, 3, none⟩ = some (.string d.payee) := (blk_cell bx5 3).trans rfl
      have y4 : W7.cell? ⟨k9, 4, none⟩ = some (.string d.cur) := (blk_cell bx5 4).trans rfl
      have y5 : W7.cell? ⟨k9, 5, none⟩ = some (.int .i64 d.amt) := (blk_cell bx5 5).trans rfl
      have y6 : W7.cell? ⟨k9, 6, none⟩ = some (.int .i64 d.kind) := (blk_cell bx5 6).trans rfl
      have y7 : W7.cell? ⟨k9, 7, none⟩ = some (.int .i64 d.days) := (blk_cell bx5 7).trans rfl
      have y8 : W7.cell? ⟨k9, 8, none⟩ = some (.int .i64 (d.frm + more)) := (blk_cell bx5 8).trans rfl
      have HX : x = true → n ≤ a ∧ d.frm + more + d.days ≤ a := by
        rintro rfl
        obtain ⟨_, hN2⟩ := due_yes hD2
        exact ⟨next_mono HD1.out hN2 (by show d.frm + d.days ≤ d.frm + more + d.days; omega), next_ge hN2⟩
      have HY : y = true → n ≤ b2 := by
        rintro rfl
        obtain ⟨_, hN3⟩ := due_yes hD3
        exact next_mono HD1.out hN3 (by show d.frm + d.days ≤ d.frm + (d.days + more); omega)
      clear hD2 hD3
      cases x with
      | true =>
        obtain ⟨v1, v2⟩ := HX rfl
        have v1b : decide (n ≤ a) = true := decide_eq_true v1
        have v2b : decide (d.frm + more + d.days ≤ a) = true := decide_eq_true v2
        clear HX
        cases y with
        | true =>
          have v3b : decide (n ≤ b2) = true := decide_eq_true (HY rfl)
          clear HY
          go_wp2_with fail
          go_ret
          exact ⟨rfl, hBw7⟩
        | false =>
          clear HY
          go_wp2_with fail
          go_ret
          exact ⟨rfl, hBw7⟩
      | false =>
        clear HX
        cases y with
        | true =>
          have v3b : decide (n ≤ b2) = true := decide_eq_true (HY rfl)
          clear HY
          go_wp2_with fail
          go_ret
          exact ⟨rfl, hBw7⟩
        | false =>
          clear HY
          go_wp2_with fail
          go_ret
          exact ⟨rfl, hBw7⟩
end Go.Proofs.Ytcmjgkmnbenniaa.Ext
