/- grown: a bill and the document's, behind the same deeds. Written by wip/copies.py. -/
import Derived.Test.YtcmjgkmnbenniaaEven
namespace Go.Proofs.Ytcmjgkmnbenniaa.Ext
open Go.RowKit Go.Maps Go.WideMaps Go.Proofs.YtcmjgkmnbenniaaW.PrintWords Go.Proofs.YtcmjgkmnbenniaaW.PrintLast
/-- What deeds keep. -/
structure Inv (b : St) (n : Nat) : Prop where
  len : b.passed.length ≤ n
  hs : b.holder.size ≤ 100
  st : 0 ≤ b.state ∧ b.state ≤ 3
theorem Inv.mono {b : St} {n n' : Nat} (h : Inv b n) (hn : n ≤ n') : Inv b n' := ⟨Nat.le_trans h.len hn, h.hs, h.st⟩
theorem Inv.deed {b : St} {n : Nat} (h : Inv b n) (call : Int) (x y : ByteArray) (day : Int) (d : Dr) (hy : y.size ≤ 100) : Inv (doSt call x y day d b) (n + 1) := by
  refine ⟨by have := do_len call x y day d b; have := h.len; omega, do_holder call x y day d b hy h.hs, ?_⟩
  by_cases hc : doCode call x y day d b = 0
  · rcases do_zero hc with ⟨_, _, _, e⟩ | ⟨_, _, _, _, _, e⟩ | ⟨_, _, e⟩ | ⟨_, _, e⟩
    · rw [e]; show (0 : Int) ≤ 1 ∧ (1 : Int) ≤ 3; decide
    · rw [e]; exact h.st
    · rw [e]; show (0 : Int) ≤ 2 ∧ (2 : Int) ≤ 3; decide
    · rw [e]; show (0 : Int) ≤ 3 ∧ (3 : Int) ≤ 3; decide
  · rw [do_bad hc]; exact h.st
theorem IsBill.lower {w : World} {lo lo' g m : Nat} {d : Dr} {b : St} (h : IsBill w lo g m d b) (hl : lo' ≤ lo) : IsBill w lo' g m d b := ⟨h.blk, h.own, Nat.le_trans hl h.log, Nat.le_trans hl h.lom⟩
theorem IsRef.lower {w : World} {lo lo' q : Nat} {d : Dr} {b : St} (h : IsRef w lo q d b) (hl : lo' ≤ lo) : IsRef w lo' q d b := by
  obtain ⟨A, c, hb, hR⟩ := h.out
  exact ⟨⟨A, c, hb, Kd.R_lower hR hl⟩, Nat.le_trans hl h.lo⟩
set_option maxHeartbeats 16000000 in
set_option maxRecDepth 100000 in
theorem grown_any (d : Dr) (l : List X.S46) (A : Option Addr) (c n : Nat) (w : World) (hr : Kd.C X.k46 w A l.length l) (hS : Short d) (hF : Fine l n) (hn : n ≤ 30) (hm : mayB d = true) :
    Calls Try.prog 23 #[.agg d.arr, .slice A l.length c] w fun e w' => ∃ g m q b, e = .returned (.tuple #[pt0 g, pt0 q, .bool true]) ∧ IsBill w' w.heap.size g m d b ∧ IsRef w' w.heap.size q d b ∧ Inv b l.length ∧ Below w.heap.size w w' := by
  have hu25 := Try.underlying25
  have hbx : Below w.heap.size w (w.alloc (.cells #[.string d.num, .string d.drawer, .string d.drawee, .string d.payee, .string d.cur, .int .i64 d.amt, .int .i64 d.kind, .int .i64 d.days, .int .i64 d.frm] 25)) := below_alloc (Below.refl _ _) _
  have hbox := blk_new w (.cells #[.string d.num, .string d.drawer, .string d.drawee, .string d.payee, .string d.cur, .int .i64 d.amt, .int .i64 d.kind, .int .i64 d.days, .int .i64 d.frm] 25)
  have cN := New_any 2 d (w.alloc (.cells #[.string d.num, .string d.drawer, .string d.drawee, .string d.payee, .string d.cur, .int .i64 d.amt, .int .i64 d.kind, .int .i64 d.days, .int .i64 d.frm] 25)) (by rw [mayd_f d hS 2 (by omega), hm])
  have hs1 : w.heap.size ≤ (w.alloc (.cells #[.string d.num, .string d.drawer, .string d.drawee, .string d.payee, .string d.cur, .int .i64 d.amt, .int .i64 d.kind, .int .i64 d.days, .int .i64 d.frm] 25)).heap.size := by simp
  unfold Dr.arr at cN ⊢
  clear hm
  go_enter Try.func23, Try.ntmps23
  go_wp2_with fail
  refine cN.mono ?_
  rintro e w1 ⟨g, m, rfl, hb1, hB1⟩
  have hB01 := below_up hbx hB1
  replace hb1 := hb1.lower hs1
  replace hbox := blk_below hbox hB1
  clear hbx hB1 hs1
  have q0 : w1.cell? ⟨w.heap.size, 0, none⟩ = some (.string d.num) := (blk_cell hbox 0).trans rfl
  have q1 : w1.cell? ⟨w.heap.size, 1, none⟩ = some (.string d.drawer) := (blk_cell hbox 1).trans rfl
  have q2 : w1.cell? ⟨w.heap.size, 2, none⟩ = some (.string d.drawee) := (blk_cell hbox 2).trans rfl
  have q3 : w1.cell? ⟨w.heap.size, 3, none⟩ = some (.string d.payee) := (blk_cell hbox 3).trans rfl
  have q4 : w1.cell? ⟨w.heap.size, 4, none⟩ = some (.string d.cur) := (blk_cell hbox 4).trans rfl
  have q5 : w1.cell? ⟨w.heap.size, 5, none⟩ = some (.int .i64 d.amt) := (blk_cell hbox 5).trans rfl
  have q6 : w1.cell? ⟨w.heap.size, 6, none⟩ = some (.int .i64 d.kind) := (blk_cell hbox 6).trans rfl
  have q7 : w1.cell? ⟨w.heap.size, 7, none⟩ = some (.int .i64 d.days) := (blk_cell hbox 7).trans rfl
  have q8 : w1.cell? ⟨w.heap.size, 8, none⟩ = some (.int .i64 d.frm) := (blk_cell hbox 8).trans rfl
  have cR := RefNew_any d w1
  unfold Dr.arr at cR
  go_wp2_with fail
  refine cR.mono ?_
  rintro e w2 ⟨q, rfl, hr2, hB2⟩
  have hB02 := below_up hB01 hB2
  have hb2 := hb1.below hB2
  replace hr2 := hr2.lower hB01.size
  clear q0 q1 q2 q3 q4 q5 q6 q7 q8 hB01 hB2 hb1 hbox
  have hF30 := hF.len
  go_wp2_with fail
  go_loopw [10] (fun v10 wr => ∃ (i : Nat) (b : St), i ≤ l.length ∧ v10 = .int .i64 i ∧ IsBill wr w.heap.size g m d b ∧ IsRef wr w.heap.size q d b ∧ Aside (Inv b i) ∧ Below w.heap.size w wr) (fun v10 _ => l.length - (intOf v10).toNat)
  case atStart => exact ⟨0, newSt d, Nat.zero_le _, rfl, hb2, hr2, (⟨Nat.zero_le _, hS.h4, by show (0 : Int) ≤ 0 ∧ (0 : Int) ≤ 3; decide⟩ : Inv (newSt d) 0), hB02⟩
  case round =>
    obtain ⟨i, b, hi, rfl, hb, hrf, HI, hB⟩ := hrel
    by_cases hlt : i < l.length
    · obtain ⟨ad, eA, e0, e1, e2, e3⟩ := X.at_T46 hr (i : Int) (by omega) (by omega)
      subst eA
      obtain ⟨hx, hy⟩ := hF.short i hlt
      generalize X.rd_T46 l (i : Int) = z at e0 e1 e2 e3 hx hy
      obtain ⟨call, x, y, day⟩ := z
      simp only [Int.toNat_natCast] at e0 e1 e2 e3 hx hy
      have a0 := keepw hB e0
      have a1 := keepw hB e1
      have a2 := keepw hB e2
      have a3 := keepw hB e3
      clear e0 e1 e2 e3
      have hBB : Below wr.heap.size wr (wr.alloc (.cells #[.int .i64 call, .string x, .string y, .int .i64 day] 46)) := below_alloc (Below.refl _ _) _
      have hbk := blk_new wr (.cells #[.int .i64 call, .string x, .string y, .int .i64 day] 46)
      have hszB : (wr.alloc (.cells #[.int .i64 call, .string x, .string y, .int .i64 day] 46)).heap.size = wr.heap.size + 1 := by simp
      have hbB := hb.below hBB
      have hrB := hrf.below hBB
      have hlg := hb.ltg
      have hlm := hb.ltm
      have hlq := hrf.lt
      have hlog := hb.log
      by_cases hc0 : 0 ≤ call
      · have t0 : decide (0 ≤ call) = true := decide_eq_true hc0
        by_cases hc3 : call ≤ 3
        · have t3 : decide (call ≤ 3) = true := decide_eq_true hc3
          have hst := HI.out.st
          have hpl := HI.out.len
          have hsm := small_of hS HI.out.hs (by omega)
          have hrlo := hB.size
          have hI2 : Aside (Inv (doSt call x y day d b) (i + 1)) := HI.out.deed call x y day d hy
          go_wp2_with fail
          have x0 := (blk_cell hbk 0).trans rfl
          have x1 := (blk_cell hbk 1).trans rfl
          have x2 := (blk_cell hbk 2).trans rfl
          have x3 := (blk_cell hbk 3).trans rfl
          clear hbk a0 a1 a2 a3
          generalize wr.alloc (.cells #[.int .i64 call, .string x, .string y, .int .i64 day] 46) = WB at hBB hszB hbB hrB x0 x1 x2 x3 ⊢
          refine start_ (n := 24) (S := fun w' => w'.cell? ⟨wr.heap.size, 0, none⟩ = some (.int .i64 call) ∧ w'.cell? ⟨wr.heap.size, 1, none⟩ = some (.string x) ∧ w'.cell? ⟨wr.heap.size, 2, none⟩ = some (.string y) ∧ w'.cell? ⟨wr.heap.size, 3, none⟩ = some (.int .i64 day)) (ds := []) #[false, false, false, false, false, false, false, false, false, false, false, false, false, false, false, false, false, false, false, false, false, false, false, false] (by kernel_rfl) rfl rfl ?_ (fun hHeld => ?_)
          · exact ⟨x0, x1, x2, x3⟩
          have hbd : IsBill WB.drew w.heap.size g m d b := hbB.below (below_drew (Below.refl _ _))
          have hrd : IsRef WB.drew w.heap.size q d b := hrB.below (below_drew (Below.refl _ _))
          have hBd : Below wr.heap.size wr WB.drew := below_drew hBB
          have hszd : WB.drew.heap.size = wr.heap.size + 1 := hszB
          clear x0 x1 x2 x3 hbB hrB hBB hszB
          generalize WB.drew = W0 at hHeld hbd hrd hBd hszd ⊢
          have hH0 := hHeld
          refine take_ (i := 0) (N := some 35) (v := ?_) (a' := ?_) #[true, false, false, false, false, false, false, false, false, false, false, false, false, false, false, false, false, false, false, false, false, false, false, false] rfl rfl (by kernel_rfl) (fun _ _ _ h => h) (Or.inl ⟨by rfl, ?_⟩) hHeld ?_ ?_
          rotate_left
          · rintro w' ⟨s0, s1, s2, s3⟩
            go_simp
            with_reducible rfl
          rotate_left
          · simp only [Act.put, List.setIfInBounds_toArray, List.set_cons_zero, List.set_cons_succ]
            rfl
          refine take_ (i := 1) (N := some 36) (v := ?_) (a' := ?_) #[true, true, false, false, false, false, false, false, false, false, false, false, false, false, false, false, false, false, false, false, false, false, false, false] rfl rfl (by kernel_rfl) (fun _ _ _ h => h) (Or.inl ⟨by rfl, ?_⟩) hHeld ?_ ?_
          rotate_left
          · rintro w' ⟨s0, s1, s2, s3⟩
            go_simp
            with_reducible rfl
          rotate_left
          · simp only [Act.put, List.setIfInBounds_toArray, List.set_cons_zero, List.set_cons_succ]
            rfl
          refine take_ (i := 2) (N := some 37) (v := ?_) (a' := ?_) #[true, true, true, false, false, false, false, false, false, false, false, false, false, false, false, false, false, false, false, false, false, false, false, false] rfl rfl (by kernel_rfl) (fun _ _ _ h => h) (Or.inl ⟨by rfl, ?_⟩) hHeld ?_ ?_
          rotate_left
          · rintro w' ⟨s0, s1, s2, s3⟩
            go_simp
            with_reducible rfl
          rotate_left
          · simp only [Act.put, List.setIfInBounds_toArray, List.set_cons_zero, List.set_cons_succ]
            rfl
          refine take_ (i := 3) (N := some 38) (v := ?_) (a' := ?_) #[true, true, true, true, false, false, false, false, false, false, false, false, false, false, false, false, false, false, false, false, false, false, false, false] rfl rfl (by kernel_rfl) (fun _ _ _ h => h) (Or.inl ⟨by rfl, ?_⟩) hHeld ?_ ?_
          rotate_left
          · rintro w' ⟨s0, s1, s2, s3⟩
            go_simp
            with_reducible rfl
          rotate_left
          · simp only [Act.put, List.setIfInBounds_toArray, List.set_cons_zero, List.set_cons_succ]
            rfl
          refine take_ (i := 4) (N := some 39) (v := ?_) (a' := ?_) #[true, true, true, true, true, false, false, false, false, false, false, false, false, false, false, false, false, false, false, false, false, false, false, false] rfl rfl (by kernel_rfl) (fun _ _ _ h => h) (Or.inl ⟨by rfl, ?_⟩) hHeld ?_ ?_
          rotate_left
          · rintro w' ⟨s0, s1, s2, s3⟩
            go_simp
            with_reducible rfl
          rotate_left
          · simp only [Act.put, List.setIfInBounds_toArray, List.set_cons_zero, List.set_cons_succ]
            rfl
          refine take_ (i := 5) (N := some 40) (v := ?_) (a' := ?_) #[true, true, true, true, true, true, false, false, false, false, false, false, false, false, false, false, false, false, false, false, false, false, false, false] rfl rfl (by kernel_rfl) (fun _ _ _ h => h) (Or.inl ⟨by rfl, ?_⟩) hHeld ?_ ?_
          rotate_left
          · rintro w' ⟨s0, s1, s2, s3⟩
            go_simp
            with_reducible rfl
          rotate_left
          · simp only [Act.put, List.setIfInBounds_toArray, List.set_cons_zero, List.set_cons_succ]
            rfl
          refine take_ (i := 6) (N := some 41) (v := ?_) (a' := ?_) #[true, true, true, true, true, true, true, false, false, false, false, false, false, false, false, false, false, false, false, false, false, false, false, false] rfl rfl (by kernel_rfl) (fun _ _ _ h => h) (Or.inl ⟨by rfl, ?_⟩) hHeld ?_ ?_
          rotate_left
          · rintro w' ⟨s0, s1, s2, s3⟩
            go_simp
            with_reducible rfl
          rotate_left
          · simp only [Act.put, List.setIfInBounds_toArray, List.set_cons_zero, List.set_cons_succ]
            rfl
          refine take_ (i := 7) (N := some 42) (v := ?_) (a' := ?_) #[true, true, true, true, true, true, true, true, false, false, false, false, false, false, false, false, false, false, false, false, false, false, false, false] rfl rfl (by kernel_rfl) (fun _ _ _ h => h) (Or.inl ⟨by rfl, ?_⟩) hHeld ?_ ?_
          rotate_left
          · rintro w' ⟨s0, s1, s2, s3⟩
            go_simp
            with_reducible rfl
          rotate_left
          · simp only [Act.put, List.setIfInBounds_toArray, List.set_cons_zero, List.set_cons_succ]
            rfl
          refine take_ (i := 8) (N := some 43) (v := ?_) (a' := ?_) #[true, true, true, true, true, true, true, true, true, false, false, false, false, false, false, false, false, false, false, false, false, false, false, false] rfl rfl (by kernel_rfl) (fun _ _ _ h => h) (Or.inl ⟨by rfl, ?_⟩) hHeld ?_ ?_
          rotate_left
          · rintro w' ⟨s0, s1, s2, s3⟩
            go_simp
            with_reducible rfl
          rotate_left
          · simp only [Act.put, List.setIfInBounds_toArray, List.set_cons_zero, List.set_cons_succ]
            rfl
          refine take_ (i := 9) (N := some 44) (v := ?_) (a' := ?_) #[true, true, true, true, true, true, true, true, true, true, false, false, false, false, false, false, false, false, false, false, false, false, false, false] rfl rfl (by kernel_rfl) (fun _ _ _ h => h) (Or.inl ⟨by rfl, ?_⟩) hHeld ?_ ?_
          rotate_left
          · rintro w' ⟨s0, s1, s2, s3⟩
            go_simp
            with_reducible rfl
          rotate_left
          · simp only [Act.put, List.setIfInBounds_toArray, List.set_cons_zero, List.set_cons_succ]
            rfl
          refine take_ (i := 10) (N := some 45) (v := ?_) (a' := ?_) #[true, true, true, true, true, true, true, true, true, true, true, false, false, false, false, false, false, false, false, false, false, false, false, false] rfl rfl (by kernel_rfl) (fun _ _ _ h => h) (Or.inl ⟨by rfl, ?_⟩) hHeld ?_ ?_
          rotate_left
          · rintro w' ⟨s0, s1, s2, s3⟩
            go_simp
            with_reducible rfl
          rotate_left
          · simp only [Act.put, List.setIfInBounds_toArray, List.set_cons_zero, List.set_cons_succ]
            rfl
          refine take_ (i := 12) (N := some 47) (v := ?_) (a' := ?_) #[true, true, true, true, true, true, true, true, true, true, true, false, true, false, false, false, false, false, false, false, false, false, false, false] rfl rfl (by kernel_rfl) (fun _ _ _ h => h) (Or.inl ⟨by rfl, ?_⟩) hHeld ?_ ?_
          rotate_left
          · rintro w' ⟨s0, s1, s2, s3⟩
            go_simp
            with_reducible rfl
          rotate_left
          · simp only [Act.put, List.setIfInBounds_toArray, List.set_cons_zero, List.set_cons_succ]
            rfl
          refine take_ (i := 13) (N := some 48) (v := ?_) (a' := ?_) #[true, true, true, true, true, true, true, true, true, true, true, false, true, true, false, false, false, false, false, false, false, false, false, false] rfl rfl (by kernel_rfl) (fun _ _ _ h => h) (Or.inl ⟨by rfl, ?_⟩) hHeld ?_ ?_
          rotate_left
          · rintro w' ⟨s0, s1, s2, s3⟩
            go_simp
            with_reducible rfl
          rotate_left
          · simp only [Act.put, List.setIfInBounds_toArray, List.set_cons_zero, List.set_cons_succ]
            rfl
          refine take_ (i := 14) (N := some 49) (v := ?_) (a' := ?_) #[true, true, true, true, true, true, true, true, true, true, true, false, true, true, true, false, false, false, false, false, false, false, false, false] rfl rfl (by kernel_rfl) (fun _ _ _ h => h) (Or.inl ⟨by rfl, ?_⟩) hHeld ?_ ?_
          rotate_left
          · rintro w' ⟨s0, s1, s2, s3⟩
            go_simp
            with_reducible rfl
          rotate_left
          · simp only [Act.put, List.setIfInBounds_toArray, List.set_cons_zero, List.set_cons_succ]
            rfl
          refine take_ (i := 15) (N := some 50) (v := ?_) (a' := ?_) #[true, true, true, true, true, true, true, true, true, true, true, false, true, true, true, true, false, false, false, false, false, false, false, false] rfl rfl (by kernel_rfl) (fun _ _ _ h => h) (Or.inl ⟨by rfl, ?_⟩) hHeld ?_ ?_
          rotate_left
          · rintro w' ⟨s0, s1, s2, s3⟩
            go_simp
            with_reducible rfl
          rotate_left
          · simp only [Act.put, List.setIfInBounds_toArray, List.set_cons_zero, List.set_cons_succ]
            rfl
          refine take_ (i := 16) (N := some 51) (v := ?_) (a' := ?_) #[true, true, true, true, true, true, true, true, true, true, true, false, true, true, true, true, true, false, false, false, false, false, false, false] rfl rfl (by kernel_rfl) (fun _ _ _ h => h) (Or.inl ⟨by rfl, ?_⟩) hHeld ?_ ?_
          rotate_left
          · rintro w' ⟨s0, s1, s2, s3⟩
            go_simp
            with_reducible rfl
          rotate_left
          · simp only [Act.put, List.setIfInBounds_toArray, List.set_cons_zero, List.set_cons_succ]
            rfl
          refine take_ (i := 17) (N := some 52) (v := ?_) (a' := ?_) #[true, true, true, true, true, true, true, true, true, true, true, false, true, true, true, true, true, true, false, false, false, false, false, false] rfl rfl (by kernel_rfl) (fun _ _ _ h => h) (Or.inl ⟨by rfl, ?_⟩) hHeld ?_ ?_
          rotate_left
          · rintro w' ⟨s0, s1, s2, s3⟩
            go_simp
            with_reducible rfl
          rotate_left
          · simp only [Act.put, List.setIfInBounds_toArray, List.set_cons_zero, List.set_cons_succ]
            rfl
          refine take_ (i := 18) (N := some 53) (v := ?_) (a' := ?_) #[true, true, true, true, true, true, true, true, true, true, true, false, true, true, true, true, true, true, true, false, false, false, false, false] rfl rfl (by kernel_rfl) (fun _ _ _ h => h) (Or.inl ⟨by rfl, ?_⟩) hHeld ?_ ?_
          rotate_left
          · rintro w' ⟨s0, s1, s2, s3⟩
            go_simp
            with_reducible rfl
          rotate_left
          · simp only [Act.put, List.setIfInBounds_toArray, List.set_cons_zero, List.set_cons_succ]
            rfl
          refine take_ (i := 19) (N := some 54) (v := ?_) (a' := ?_) #[true, true, true, true, true, true, true, true, true, true, true, false, true, true, true, true, true, true, true, true, false, false, false, false] rfl rfl (by kernel_rfl) (fun _ _ _ h => h) (Or.inl ⟨by rfl, ?_⟩) hHeld ?_ ?_
          rotate_left
          · rintro w' ⟨s0, s1, s2, s3⟩
            go_simp
            with_reducible rfl
          rotate_left
          · simp only [Act.put, List.setIfInBounds_toArray, List.set_cons_zero, List.set_cons_succ]
            rfl
          refine take_ (i := 20) (N := some 55) (v := ?_) (a' := ?_) #[true, true, true, true, true, true, true, true, true, true, true, false, true, true, true, true, true, true, true, true, true, false, false, false] rfl rfl (by kernel_rfl) (fun _ _ _ h => h) (Or.inl ⟨by rfl, ?_⟩) hHeld ?_ ?_
          rotate_left
          · rintro w' ⟨s0, s1, s2, s3⟩
            go_simp
            with_reducible rfl
          rotate_left
          · simp only [Act.put, List.setIfInBounds_toArray, List.set_cons_zero, List.set_cons_succ]
            rfl
          refine one_ (i := 11) (N := some 46) #[true, true, true, true, true, true, true, true, true, true, true, true, true, true, true, true, true, true, true, true, true, false, false, false] rfl rfl (by kernel_rfl) (by decide) (fun K hK => ?_)
          refine goes_ Try.func22 (by kernel_rfl) rfl #[pt0 g, .agg #[.int .i64 call, .string x, .string y, .int .i64 day]] (by rfl) rfl rfl (by (try simp only [List.map_toArray, List.map_cons, List.map_nil]); first | done | rfl) ?_
          refine (do_any call x y day hx hy W0 w.heap.size g m d b hbd hsm (by omega) (by omega)).mono ?_
          rintro e W1 ⟨rfl, hb1, hB1, hK1⟩
          refine ⟨_, rfl, ?_⟩
          have hne1 : ¬ (wr.heap.size = g ∨ wr.heap.size = m) := by omega
          refine hK.out _ _ ⟨cell_kept hHeld.1 hK1 hne1, cell_kept hHeld.2.1 hK1 hne1, cell_kept hHeld.2.2.1 hK1 hne1, cell_kept hHeld.2.2.2 hK1 hne1⟩ (fun hHeld => ?_)
          clear hK K
          refine norm_ (a' := ?_) ?_ ?_
          rotate_left
          · show Act.put _ (some 46) _ = _
            simp only [Act.put, List.setIfInBounds_toArray, List.set_cons_zero, List.set_cons_succ]
            rfl
          have hr1 : IsRef W1 w.heap.size q d b := hrd.kept hK1 (by have := hrd.ne hbd; rintro (e | e) <;> omega) hbd.noTexts
          refine one_ (i := 21) (N := some 56) #[true, true, true, true, true, true, true, true, true, true, true, true, true, true, true, true, true, true, true, true, true, true, false, false] rfl rfl (by kernel_rfl) (by decide) (fun K hK => ?_)
          refine goes_ Try.func25 (by kernel_rfl) rfl #[pt0 q, .int .i64 call, .string x, .string y, .int .i64 day] (by rfl) rfl rfl (by (try simp only [List.map_toArray, List.map_cons, List.map_nil]); first | done | rfl) ?_
          refine (RefDo_any call hc0 hc3 x y day hx hy W1 w.heap.size q d b hr1 (by omega) hst (Nat.le_trans hrlo (Nat.le_trans hBd.size hK1.1))).mono ?_
          rintro e W2 ⟨rfl, hr2, hB2, hK2⟩
          refine ⟨_, rfl, ?_⟩
          have hne2 : ¬ wr.heap.size = q := by omega
          refine hK.out _ _ ⟨cell_kept hHeld.1 hK2 hne2, cell_kept hHeld.2.1 hK2 hne2, cell_kept hHeld.2.2.1 hK2 hne2, cell_kept hHeld.2.2.2 hK2 hne2⟩ (fun hHeld => ?_)
          clear hK K
          refine norm_ (a' := ?_) ?_ ?_
          rotate_left
          · show Act.put _ (some 56) _ = _
            simp only [Act.put, List.setIfInBounds_toArray, List.set_cons_zero, List.set_cons_succ]
            rfl
          have hb2 : IsBill W2 w.heap.size g m d (doSt call x y day d b) := hb1.kept hK2 (by have := hr1.ne hb1; exact fun e => this.1 e.symm) (by have := hr1.ne hb1; exact fun e => this.2 e.symm)
          refine pure_ (i := 22) (N := some 57) (v := ?_) (a' := ?_) #[true, true, true, true, true, true, true, true, true, true, true, true, true, true, true, true, true, true, true, true, true, true, true, false] rfl rfl (by kernel_rfl) (fun _ _ _ h => h) (Or.inl ⟨by rfl, ?_⟩) ?_ ?_
          rotate_left
          · intro w'
            go_simp
            with_reducible rfl
          rotate_left
          · simp only [Act.put, List.setIfInBounds_toArray, List.set_cons_zero, List.set_cons_succ]
            rfl
          refine pure_ (i := 23) (N := some 58) (v := ?_) (a' := ?_) #[true, true, true, true, true, true, true, true, true, true, true, true, true, true, true, true, true, true, true, true, true, true, true, true] rfl rfl (by kernel_rfl) (fun _ _ _ h => h) (Or.inl ⟨by rfl, ?_⟩) ?_ ?_
          rotate_left
          · intro w'
            go_simp
            with_reducible rfl
          rotate_left
          · simp only [Act.put, List.setIfInBounds_toArray, List.set_cons_zero, List.set_cons_succ]
            rfl
          refine done_ (by kernel_rfl) ?_
          have hBW : Below w.heap.size w W2 := ((below_up hB hBd).trans hB1).trans hB2
          go_wp2_with fail
          go_roundw
          case measure => simp [intOf]; omega
          case rel => exact ⟨i + 1, _, by omega, by go_num, hb2, hr2, hI2, hBW⟩
        · have t3 : decide (call ≤ 3) = false := decide_eq_false hc3
          clear hc0 hc3 hszB
          go_wp2_with fail
          go_quiet (fail)
          go_wp2_with fail
          go_roundw
          case measure => simp [intOf]; omega
          case rel => exact ⟨i + 1, b, by omega, by go_num, hbB.below (pw_below_drewN (Below.refl _ _) _), hrB.below (pw_below_drewN (Below.refl _ _) _), HI.out.mono (Nat.le_succ _), pw_below_drewN (below_up hB hBB) _⟩
      · have t0 : decide (0 ≤ call) = false := decide_eq_false hc0
        clear hc0 hszB
        go_wp2_with fail
        go_quiet (fail)
        go_wp2_with fail
        go_roundw
        case measure => simp [intOf]; omega
        case rel => exact ⟨i + 1, b, by omega, by go_num, hbB.below (pw_below_drewN (Below.refl _ _) _), hrB.below (pw_below_drewN (Below.refl _ _) _), HI.out.mono (Nat.le_succ _), pw_below_drewN (below_up hB hBB) _⟩
    · obtain rfl : i = l.length := by omega
      go_wp2_with fail
      exact bodyPost_ret (v := .tuple #[pt0 g, pt0 q, .bool true]) (by simp [results, Try.results23, go_sem]) rfl ⟨g, m, q, b, rfl, hb, hrf, HI.out, hB⟩
end Go.Proofs.Ytcmjgkmnbenniaa.Ext
