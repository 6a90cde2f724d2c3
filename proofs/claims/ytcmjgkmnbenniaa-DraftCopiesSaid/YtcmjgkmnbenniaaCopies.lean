/- DraftCopies' walk. Written by wip/copies.py. -/
import Derived.Test.YtcmjgkmnbenniaaGrown
namespace Go.Proofs.Ytcmjgkmnbenniaa.Ext
open Go.RowKit Go.Maps Go.WideMaps Go.Proofs.YtcmjgkmnbenniaaW.PrintWords Go.Proofs.YtcmjgkmnbenniaaW.PrintLast
set_option maxHeartbeats 16000000 in
set_option maxRecDepth 100000 in
theorem Copies_any (d : Dr) (l : List X.S46) (A : Option Addr) (c : Nat) (l2 : List X.S46) (A2 : Option Addr) (c2 : Nat) (w : World) (hr : Kd.C X.k46 w A l.length l) (hc : l.length ≤ c) (hr2 : Kd.C X.k46 w A2 l2.length l2) (hc2 : l2.length ≤ c2) :
    Calls Try.prog 6 #[.agg d.arr, .slice A l.length c, .slice A2 l2.length c2] w fun e w' => e = .returned (.bool true) ∧ Below w.heap.size w w' := by
  have hu25 := Try.underlying25
  have hu53 := Try.underlying53
  unfold Dr.arr
  go_enter Try.func6, Try.ntmps6
  go_wp2_with fail
  refine (awake_any _).mono ?_
  rintro e w1 ⟨rfl, hB1'⟩
  have hB1 : Below w.heap.size w w1 := below_up (below_alloc (Below.refl _ _) _) hB1'
  have hbox : w1.heap[w.heap.size]? = some (.cells #[.string d.num, .string d.drawer, .string d.drawee, .string d.payee, .string d.cur, .int .i64 d.amt, .int .i64 d.kind, .int .i64 d.days, .int .i64 d.frm] 25 (0, 0)) := blk_below (blk_new w _) hB1'
  clear hB1'
  have q0 : w1.cell? ⟨w.heap.size, 0, none⟩ = some (.string d.num) := (blk_cell hbox 0).trans rfl
  have q1 : w1.cell? ⟨w.heap.size, 1, none⟩ = some (.string d.drawer) := (blk_cell hbox 1).trans rfl
  have q2 : w1.cell? ⟨w.heap.size, 2, none⟩ = some (.string d.drawee) := (blk_cell hbox 2).trans rfl
  have q3 : w1.cell? ⟨w.heap.size, 3, none⟩ = some (.string d.payee) := (blk_cell hbox 3).trans rfl
  have q4 : w1.cell? ⟨w.heap.size, 4, none⟩ = some (.string d.cur) := (blk_cell hbox 4).trans rfl
  have q5 : w1.cell? ⟨w.heap.size, 5, none⟩ = some (.int .i64 d.amt) := (blk_cell hbox 5).trans rfl
  have q6 : w1.cell? ⟨w.heap.size, 6, none⟩ = some (.int .i64 d.kind) := (blk_cell hbox 6).trans rfl
  have q7 : w1.cell? ⟨w.heap.size, 7, none⟩ = some (.int .i64 d.days) := (blk_cell hbox 7).trans rfl
  have q8 : w1.cell? ⟨w.heap.size, 8, none⟩ = some (.int .i64 d.frm) := (blk_cell hbox 8).trans rfl
  obtain ⟨rl, hlf, hshort⟩ := long_case d
  have cL := X.supercargolaw38_long.calls d.num d.drawer d.drawee d.payee d.cur d.amt d.kind d.days d.frm rl w1 hlf
  clear hlf
  cases rl with
  | true =>
    go_wp2_with fail
    refine cL.mono ?_
    rintro e w2 ⟨rfl, hB2⟩
    go_wp2_with fail
    go_ret
    exact ⟨rfl, below_up hB1 hB2⟩
  | false =>
    have hS := hshort rfl
    clear hshort
    obtain ⟨ra, haf, hfa⟩ := heavy_case l 20
    cases ra with
    | true =>
      go_wp2_with fail
      refine cL.mono ?_
      rintro e w2 ⟨rfl, hB2⟩
      have hB02 := below_up hB1 hB2
      have cH := X.supercargolaw38_heavy.calls 2000 A c l 20 true w2 (Kd.C_below hr hB02) hc haf
      go_wp2_with fail
      refine cH.mono ?_
      rintro e w' ⟨rfl, nd, rfl⟩
      go_wp2_with fail
      go_ret
      exact ⟨rfl, pw_below_drewN hB02 nd⟩
    | false =>
      have hF := hfa rfl
      clear hfa
      obtain ⟨rb, hbf, hfb⟩ := heavy_case l2 8
      go_wp2_with fail
      refine cL.mono ?_
      rintro e w2 ⟨rfl, hB2⟩
      have hB02' := below_up hB1 hB2
      have cH := X.supercargolaw38_heavy.calls 2000 A c l 20 false w2 (Kd.C_below hr hB02') hc haf
      clear haf
      go_wp2_with fail
      refine cH.mono ?_
      rintro e w' ⟨rfl, nd, rfl⟩
      have hB02 : Below w.heap.size w (w2.drewN nd) := pw_below_drewN hB02' nd
      replace hbox := blk_below (blk_below hbox hB2) (pw_below_drewN (Below.refl w2.heap.size w2) nd)
      generalize w2.drewN nd = wh at hB02 hbox ⊢
      clear q0 q1 q2 q3 q4 q5 q6 q7 q8 hB2 hB02' cL cH
      have cH2 := X.supercargolaw38_heavy.calls 2000 A2 c2 l2 8 rb wh (Kd.C_below hr2 hB02) hc2 hbf
      clear hbf
      cases rb with
      | true =>
        go_wp2_with fail
        refine cH2.mono ?_
        rintro e w' ⟨rfl, nd, rfl⟩
        go_wp2_with fail
        go_ret
        exact ⟨rfl, pw_below_drewN hB02 nd⟩
      | false =>
        have hF2 := hfb rfl
        clear hfb
        go_wp2_with fail
        refine cH2.mono ?_
        rintro e w' ⟨rfl, nd, rfl⟩
        replace hbox := blk_below hbox (pw_below_drewN (Below.refl wh.heap.size wh) nd)
        replace hB02 : Below w.heap.size w (wh.drewN nd) := pw_below_drewN hB02 nd
        generalize wh.drewN nd = wi at hB02 hbox ⊢
        clear cH2
        have q0 : wi.cell? ⟨w.heap.size, 0, none⟩ = some (.string d.num) := (blk_cell hbox 0).trans rfl
        have q1 : wi.cell? ⟨w.heap.size, 1, none⟩ = some (.string d.drawer) := (blk_cell hbox 1).trans rfl
        have q2 : wi.cell? ⟨w.heap.size, 2, none⟩ = some (.string d.drawee) := (blk_cell hbox 2).trans rfl
        have q3 : wi.cell? ⟨w.heap.size, 3, none⟩ = some (.string d.payee) := (blk_cell hbox 3).trans rfl
        have q4 : wi.cell? ⟨w.heap.size, 4, none⟩ = some (.string d.cur) := (blk_cell hbox 4).trans rfl
        have q5 : wi.cell? ⟨w.heap.size, 5, none⟩ = some (.int .i64 d.amt) := (blk_cell hbox 5).trans rfl
        have q6 : wi.cell? ⟨w.heap.size, 6, none⟩ = some (.int .i64 d.kind) := (blk_cell hbox 6).trans rfl
        have q7 : wi.cell? ⟨w.heap.size, 7, none⟩ = some (.int .i64 d.days) := (blk_cell hbox 7).trans rfl
        have q8 : wi.cell? ⟨w.heap.size, 8, none⟩ = some (.int .i64 d.frm) := (blk_cell hbox 8).trans rfl
        have cM := X.supercargoref38_May.calls 120 d.num d.drawer d.drawee d.payee d.cur d.amt d.kind d.days d.frm (mayB d) wi (may38_f d hS 120 (by omega))
        obtain ⟨rm, hrm⟩ : ∃ rm, mayB d = rm := ⟨_, rfl⟩
        rw [hrm] at cM
        go_wp2_with fail
        refine cM.mono ?_
        rintro e w3 ⟨rfl, hB3⟩
        have hB03 := below_up hB02 hB3
        replace hbox := blk_below hbox hB3
        clear q0 q1 q2 q3 q4 q5 q6 q7 q8 cM
        have q0 : w3.cell? ⟨w.heap.size, 0, none⟩ = some (.string d.num) := (blk_cell hbox 0).trans rfl
        have q1 : w3.cell? ⟨w.heap.size, 1, none⟩ = some (.string d.drawer) := (blk_cell hbox 1).trans rfl
        have q2 : w3.cell? ⟨w.heap.size, 2, none⟩ = some (.string d.drawee) := (blk_cell hbox 2).trans rfl
        have q3 : w3.cell? ⟨w.heap.size, 3, none⟩ = some (.string d.payee) := (blk_cell hbox 3).trans rfl
        have q4 : w3.cell? ⟨w.heap.size, 4, none⟩ = some (.string d.cur) := (blk_cell hbox 4).trans rfl
        have q5 : w3.cell? ⟨w.heap.size, 5, none⟩ = some (.int .i64 d.amt) := (blk_cell hbox 5).trans rfl
        have q6 : w3.cell? ⟨w.heap.size, 6, none⟩ = some (.int .i64 d.kind) := (blk_cell hbox 6).trans rfl
        have q7 : w3.cell? ⟨w.heap.size, 7, none⟩ = some (.int .i64 d.days) := (blk_cell hbox 7).trans rfl
        have q8 : w3.cell? ⟨w.heap.size, 8, none⟩ = some (.int .i64 d.frm) := (blk_cell hbox 8).trans rfl
        cases rm with
        | false =>
          go_wp2_with fail
          go_ret
          exact ⟨rfl, hB03⟩
        | true =>
          have cG := grown_any d l A c 20 w3 (Kd.C_below hr hB03) hS hF (by omega) hrm
          unfold Dr.arr at cG
          have hF20 := hF.len
          have hF8 := hF2.len
          have hs3 := hB03.size
          clear hrm hbox
          go_wp2_with fail
          refine cG.mono ?_
          rintro e w4 ⟨g, m, q, b0, rfl, hu, hv, HI0, hB4⟩
          have hB04 := below_up hB03 hB4
          replace hu := hu.lower hs3
          replace hv := hv.lower hs3
          clear q0 q1 q2 q3 q4 q5 q6 q7 q8 cG hB02 hB3 hB03 hB4
          have cC := Copy_any w4 w.heap.size g m d b0 hu
          have hNg := hu.ltg
          have hNm := hu.ltm
          have hNq := hv.lt
          have hNle := hB04.size
          go_wp2_with fail
          refine cC.mono ?_
          rintro e w5 ⟨g2, m2, rfl, hb5, hB5⟩
          have hB05 := below_up hB04 hB5
          have hv5 := hv.below hB5
          have hu5 := hu.below hB5
          obtain ⟨A0, c0, hbk, hR0⟩ := hv5.out
          unfold refCells at hbk
          have z0 : w5.cell? ⟨q, 0, none⟩ = some (.string d.num) := (blk_cell hbk 0).trans rfl
          have z1 : w5.cell? ⟨q, 1, none⟩ = some (.string d.drawer) := (blk_cell hbk 1).trans rfl
          have z2 : w5.cell? ⟨q, 2, none⟩ = some (.string d.drawee) := (blk_cell hbk 2).trans rfl
          have z3 : w5.cell? ⟨q, 3, none⟩ = some (.string d.payee) := (blk_cell hbk 3).trans rfl
          have z4 : w5.cell? ⟨q, 4, none⟩ = some (.string d.cur) := (blk_cell hbk 4).trans rfl
          have z5 : w5.cell? ⟨q, 5, none⟩ = some (.int .i64 d.amt) := (blk_cell hbk 5).trans rfl
          have z6 : w5.cell? ⟨q, 6, none⟩ = some (.int .i64 d.kind) := (blk_cell hbk 6).trans rfl
          have z7 : w5.cell? ⟨q, 7, none⟩ = some (.int .i64 d.days) := (blk_cell hbk 7).trans rfl
          have z8 : w5.cell? ⟨q, 8, none⟩ = some (.int .i64 d.frm) := (blk_cell hbk 8).trans rfl
          have z9 : w5.cell? ⟨q, 9, none⟩ = some (.int .i64 b0.state) := (blk_cell hbk 9).trans rfl
          have z10 : w5.cell? ⟨q, 10, none⟩ = some (.bool b0.acc) := (blk_cell hbk 10).trans rfl
          have z11 : w5.cell? ⟨q, 11, none⟩ = some (.string b0.holder) := (blk_cell hbk 11).trans rfl
          have z12 : w5.cell? ⟨q, 12, none⟩ = some (.slice A0 b0.passed.length c0) := (blk_cell hbk 12).trans rfl
          have z13 : w5.cell? ⟨q, 13, none⟩ = some (.int .i64 b0.last) := (blk_cell hbk 13).trans rfl
          have hlq5 := hv5.lt
          have hB6 : Below w5.heap.size w5 (w5.alloc (.cells #[.string d.num, .string d.drawer, .string d.drawee, .string d.payee, .string d.cur, .int .i64 d.amt, .int .i64 d.kind, .int .i64 d.days, .int .i64 d.frm, .int .i64 b0.state, .bool b0.acc, .string b0.holder, .slice A0 b0.passed.length c0, .int .i64 b0.last] 53)) := below_alloc (Below.refl _ _) _
          have hv6 : IsRef (w5.alloc (.cells #[.string d.num, .string d.drawer, .string d.drawee, .string d.payee, .string d.cur, .int .i64 d.amt, .int .i64 d.kind, .int .i64 d.days, .int .i64 d.frm, .int .i64 b0.state, .bool b0.acc, .string b0.holder, .slice A0 b0.passed.length c0, .int .i64 b0.last] 53)) w.heap.size w5.heap.size d b0 := ⟨⟨A0, c0, by simpa [refCells] using blk_new w5 (.cells #[.string d.num, .string d.drawer, .string d.drawee, .string d.payee, .string d.cur, .int .i64 d.amt, .int .i64 d.kind, .int .i64 d.days, .int .i64 d.frm, .int .i64 b0.state, .bool b0.acc, .string b0.holder, .slice A0 b0.passed.length c0, .int .i64 b0.last] 53), Kd.R_below hR0 hB6⟩, hB05.size⟩
          have hq2 : w4.heap.size ≤ w5.heap.size := hB5.size
          have hI00 : Aside (Inv b0 20) := HI0.mono hF20
          clear hbk hR0 cC
          go_wp2_with fail
          clear z0 z1 z2 z3 z4 z5 z6 z7 z8 z9 z10 z11 z12 z13
          have hu6 := hu5.below hB6
          have hv6' := hv5.below hB6
          have hb6 := hb5.below hB6
          have hB06 := below_up hB05 hB6
          generalize w5.alloc (.cells #[.string d.num, .string d.drawer, .string d.drawee, .string d.payee, .string d.cur, .int .i64 d.amt, .int .i64 d.kind, .int .i64 d.days, .int .i64 d.frm, .int .i64 b0.state, .bool b0.acc, .string b0.holder, .slice A0 b0.passed.length c0, .int .i64 b0.last] 53) = w6 at hu6 hv6 hv6' hb6 hB06 ⊢
          generalize w5.heap.size = q2 at hv6 hq2 ⊢
          clear hu hv hu5 hv5 hb5 hB5 hB05 hB6 hlq5
          go_loopw [12] (fun v12 wr => ∃ (i : Nat) (b : St), i ≤ l2.length ∧ v12 = .int .i64 i ∧ IsBill wr w.heap.size g m d b0 ∧ IsRef wr w.heap.size q d b0 ∧ IsBill wr w4.heap.size g2 m2 d b ∧ IsRef wr w.heap.size q2 d b ∧ Aside (Inv b (20 + i)) ∧ Below w.heap.size w wr) (fun v12 _ => l2.length - (intOf v12).toNat)
          case atStart => exact ⟨0, b0, Nat.zero_le _, rfl, hu6, hv6', hb6, hv6, hI00, hB06⟩
          case round =>
            obtain ⟨i, b, hi, rfl, hu, hv, hb, hrf, HI, hB⟩ := hrel
            by_cases hlt : i < l2.length
            · obtain ⟨ad, eA, e0, e1, e2, e3⟩ := X.at_T46 hr2 (i : Int) (by omega) (by omega)
              subst eA
              obtain ⟨hx, hy⟩ := hF2.short i hlt
              generalize X.rd_T46 l2 (i : Int) = z at e0 e1 e2 e3 hx hy
              obtain ⟨call, x, y, day⟩ := z
              simp only [Int.toNat_natCast] at e0 e1 e2 e3 hx hy
              have a0 := keepw hB e0
              have a1 := keepw hB e1
              have a2 := keepw hB e2
              have a3 := keepw hB e3
              clear e0 e1 e2 e3
              have hBB : Below wr.heap.size wr (wr.alloc (.cells #[.int .i64 call, .string x, .string y, .int .i64 day] 46)) := below_alloc (Below.refl _ _) _
              have hbk := blk_new wr (.cells #[.int .i64 call, .string x, .string y, .int .i64 day] 46)
              have hszB : (wr.alloc (.cells #[.int .i64 call, .string x, .string y, .int .i64 day] 46)).heap.size = wr.heap.size + 1 := by simp
              have hbB := hb.below hBB
              have hrB := hrf.below hBB
              have hlg := hb.ltg
              have hlm := hb.ltm
              have hlq := hrf.lt
              have hlog := hb.log
              have hlom := hb.lom
              by_cases hc0 : 0 ≤ call
              · have t0 : decide (0 ≤ call) = true := decide_eq_true hc0
                by_cases hc3 : call ≤ 3
                · have t3 : decide (call ≤ 3) = true := decide_eq_true hc3
                  have hst := HI.out.st
                  have hpl := HI.out.len
                  have hsm := small_of hS HI.out.hs (by omega)
                  have hrlo := hB.size
                  have hI2 : Aside (Inv (doSt call x y day d b) (20 + (i + 1))) := HI.out.deed call x y day d hy
                  go_wp2_with fail
                  have x0 := (blk_cell hbk 0).trans rfl
                  have x1 := (blk_cell hbk 1).trans rfl
                  have x2 := (blk_cell hbk 2).trans rfl
                  have x3 := (blk_cell hbk 3).trans rfl
                  clear hbk a0 a1 a2 a3
                  generalize wr.alloc (.cells #[.int .i64 call, .string x, .string y, .int .i64 day] 46) = WB at hBB hszB hbB hrB x0 x1 x2 x3 ⊢
                  refine start_ (n := 23) (S := fun w' => w'.cell? ⟨wr.heap.size, 0, none⟩ = some (.int .i64 call) ∧ w'.cell? ⟨wr.heap.size, 1, none⟩ = some (.string x) ∧ w'.cell? ⟨wr.heap.size, 2, none⟩ = some (.string y) ∧ w'.cell? ⟨wr.heap.size, 3, none⟩ = some (.int .i64 day)) (ds := []) #[false, false, false, false, false, false, false, false, false, false, false, false, false, false, false, false, false, false, false, false, false, false, false] (by kernel_rfl) rfl rfl ?_ (fun hHeld => ?_)
                  · exact ⟨x0, x1, x2, x3⟩
                  have hbd : IsBill WB.drew w4.heap.size g2 m2 d b := hbB.below (below_drew (Below.refl _ _))
                  have hrd : IsRef WB.drew w.heap.size q2 d b := hrB.below (below_drew (Below.refl _ _))
                  have hBd : Below wr.heap.size wr WB.drew := below_drew hBB
                  have hszd : WB.drew.heap.size = wr.heap.size + 1 := hszB
                  clear x0 x1 x2 x3 hbB hrB hBB hszB
                  generalize WB.drew = W0 at hHeld hbd hrd hBd hszd ⊢
                  have hH0 := hHeld
                  refine take_ (i := 0) (N := some 55) (v := ?_) (a' := ?_) #[true, false, false, false, false, false, false, false, false, false, false, false, false, false, false, false, false, false, false, false, false, false, false] rfl rfl (by kernel_rfl) (fun _ _ _ h => h) (Or.inl ⟨by rfl, ?_⟩) hHeld ?_ ?_
                  rotate_left
                  · rintro w' ⟨s0, s1, s2, s3⟩
                    go_simp
                    with_reducible rfl
                  rotate_left
                  · simp only [Act.put, List.setIfInBounds_toArray, List.set_cons_zero, List.set_cons_succ]
                    rfl
                  refine take_ (i := 1) (N := some 56) (v := ?_) (a' := ?_) #[true, true, false, false, false, false, false, false, false, false, false, false, false, false, false, false, false, false, false, false, false, false, false] rfl rfl (by kernel_rfl) (fun _ _ _ h => h) (Or.inl ⟨by rfl, ?_⟩) hHeld ?_ ?_
                  rotate_left
                  · rintro w' ⟨s0, s1, s2, s3⟩
                    go_simp
                    with_reducible rfl
                  rotate_left
                  · simp only [Act.put, List.setIfInBounds_toArray, List.set_cons_zero, List.set_cons_succ]
                    rfl
                  refine take_ (i := 2) (N := some 57) (v := ?_) (a' := ?_) #[true, true, true, false, false, false, false, false, false, false, false, false, false, false, false, false, false, false, false, false, false, false, false] rfl rfl (by kernel_rfl) (fun _ _ _ h => h) (Or.inl ⟨by rfl, ?_⟩) hHeld ?_ ?_
                  rotate_left
                  · rintro w' ⟨s0, s1, s2, s3⟩
                    go_simp
                    with_reducible rfl
                  rotate_left
                  · simp only [Act.put, List.setIfInBounds_toArray, List.set_cons_zero, List.set_cons_succ]
                    rfl
                  refine take_ (i := 3) (N := some 58) (v := ?_) (a' := ?_) #[true, true, true, true, false, false, false, false, false, false, false, false, false, false, false, false, false, false, false, false, false, false, false] rfl rfl (by kernel_rfl) (fun _ _ _ h => h) (Or.inl ⟨by rfl, ?_⟩) hHeld ?_ ?_
                  rotate_left
                  · rintro w' ⟨s0, s1, s2, s3⟩
                    go_simp
                    with_reducible rfl
                  rotate_left
                  · simp only [Act.put, List.setIfInBounds_toArray, List.set_cons_zero, List.set_cons_succ]
                    rfl
                  refine take_ (i := 4) (N := some 59) (v := ?_) (a' := ?_) #[true, true, true, true, true, false, false, false, false, false, false, false, false, false, false, false, false, false, false, false, false, false, false] rfl rfl (by kernel_rfl) (fun _ _ _ h => h) (Or.inl ⟨by rfl, ?_⟩) hHeld ?_ ?_
                  rotate_left
                  · rintro w' ⟨s0, s1, s2, s3⟩
                    go_simp
                    with_reducible rfl
                  rotate_left
                  · simp only [Act.put, List.setIfInBounds_toArray, List.set_cons_zero, List.set_cons_succ]
                    rfl
                  refine take_ (i := 5) (N := some 60) (v := ?_) (a' := ?_) #[true, true, true, true, true, true, false, false, false, false, false, false, false, false, false, false, false, false, false, false, false, false, false] rfl rfl (by kernel_rfl) (fun _ _ _ h => h) (Or.inl ⟨by rfl, ?_⟩) hHeld ?_ ?_
                  rotate_left
                  · rintro w' ⟨s0, s1, s2, s3⟩
                    go_simp
                    with_reducible rfl
                  rotate_left
                  · simp only [Act.put, List.setIfInBounds_toArray, List.set_cons_zero, List.set_cons_succ]
                    rfl
                  refine take_ (i := 6) (N := some 61) (v := ?_) (a' := ?_) #[true, true, true, true, true, true, true, false, false, false, false, false, false, false, false, false, false, false, false, false, false, false, false] rfl rfl (by kernel_rfl) (fun _ _ _ h => h) (Or.inl ⟨by rfl, ?_⟩) hHeld ?_ ?_
                  rotate_left
                  · rintro w' ⟨s0, s1, s2, s3⟩
                    go_simp
                    with_reducible rfl
                  rotate_left
                  · simp only [Act.put, List.setIfInBounds_toArray, List.set_cons_zero, List.set_cons_succ]
                    rfl
                  refine take_ (i := 7) (N := some 62) (v := ?_) (a' := ?_) #[true, true, true, true, true, true, true, true, false, false, false, false, false, false, false, false, false, false, false, false, false, false, false] rfl rfl (by kernel_rfl) (fun _ _ _ h => h) (Or.inl ⟨by rfl, ?_⟩) hHeld ?_ ?_
                  rotate_left
                  · rintro w' ⟨s0, s1, s2, s3⟩
                    go_simp
                    with_reducible rfl
                  rotate_left
                  · simp only [Act.put, List.setIfInBounds_toArray, List.set_cons_zero, List.set_cons_succ]
                    rfl
                  refine take_ (i := 8) (N := some 63) (v := ?_) (a' := ?_) #[true, true, true, true, true, true, true, true, true, false, false, false, false, false, false, false, false, false, false, false, false, false, false] rfl rfl (by kernel_rfl) (fun _ _ _ h => h) (Or.inl ⟨by rfl, ?_⟩) hHeld ?_ ?_
                  rotate_left
                  · rintro w' ⟨s0, s1, s2, s3⟩
                    go_simp
                    with_reducible rfl
                  rotate_left
                  · simp only [Act.put, List.setIfInBounds_toArray, List.set_cons_zero, List.set_cons_succ]
                    rfl
                  refine take_ (i := 9) (N := some 64) (v := ?_) (a' := ?_) #[true, true, true, true, true, true, true, true, true, true, false, false, false, false, false, false, false, false, false, false, false, false, false] rfl rfl (by kernel_rfl) (fun _ _ _ h => h) (Or.inl ⟨by rfl, ?_⟩) hHeld ?_ ?_
                  rotate_left
                  · rintro w' ⟨s0, s1, s2, s3⟩
                    go_simp
                    with_reducible rfl
                  rotate_left
                  · simp only [Act.put, List.setIfInBounds_toArray, List.set_cons_zero, List.set_cons_succ]
                    rfl
                  refine take_ (i := 10) (N := some 65) (v := ?_) (a' := ?_) #[true, true, true, true, true, true, true, true, true, true, true, false, false, false, false, false, false, false, false, false, false, false, false] rfl rfl (by kernel_rfl) (fun _ _ _ h => h) (Or.inl ⟨by rfl, ?_⟩) hHeld ?_ ?_
                  rotate_left
                  · rintro w' ⟨s0, s1, s2, s3⟩
                    go_simp
                    with_reducible rfl
                  rotate_left
                  · simp only [Act.put, List.setIfInBounds_toArray, List.set_cons_zero, List.set_cons_succ]
                    rfl
                  refine take_ (i := 12) (N := some 67) (v := ?_) (a' := ?_) #[true, true, true, true, true, true, true, true, true, true, true, false, true, false, false, false, false, false, false, false, false, false, false] rfl rfl (by kernel_rfl) (fun _ _ _ h => h) (Or.inl ⟨by rfl, ?_⟩) hHeld ?_ ?_
                  rotate_left
                  · rintro w' ⟨s0, s1, s2, s3⟩
                    go_simp
                    with_reducible rfl
                  rotate_left
                  · simp only [Act.put, List.setIfInBounds_toArray, List.set_cons_zero, List.set_cons_succ]
                    rfl
                  refine take_ (i := 13) (N := some 68) (v := ?_) (a' := ?_) #[true, true, true, true, true, true, true, true, true, true, true, false, true, true, false, false, false, false, false, false, false, false, false] rfl rfl (by kernel_rfl) (fun _ _ _ h => h) (Or.inl ⟨by rfl, ?_⟩) hHeld ?_ ?_
                  rotate_left
                  · rintro w' ⟨s0, s1, s2, s3⟩
                    go_simp
                    with_reducible rfl
                  rotate_left
                  · simp only [Act.put, List.setIfInBounds_toArray, List.set_cons_zero, List.set_cons_succ]
                    rfl
                  refine take_ (i := 14) (N := some 69) (v := ?_) (a' := ?_) #[true, true, true, true, true, true, true, true, true, true, true, false, true, true, true, false, false, false, false, false, false, false, false] rfl rfl (by kernel_rfl) (fun _ _ _ h => h) (Or.inl ⟨by rfl, ?_⟩) hHeld ?_ ?_
                  rotate_left
                  · rintro w' ⟨s0, s1, s2, s3⟩
                    go_simp
                    with_reducible rfl
                  rotate_left
                  · simp only [Act.put, List.setIfInBounds_toArray, List.set_cons_zero, List.set_cons_succ]
                    rfl
                  refine take_ (i := 15) (N := some 70) (v := ?_) (a' := ?_) #[true, true, true, true, true, true, true, true, true, true, true, false, true, true, true, true, false, false, false, false, false, false, false] rfl rfl (by kernel_rfl) (fun _ _ _ h => h) (Or.inl ⟨by rfl, ?_⟩) hHeld ?_ ?_
                  rotate_left
                  · rintro w' ⟨s0, s1, s2, s3⟩
                    go_simp
                    with_reducible rfl
                  rotate_left
                  · simp only [Act.put, List.setIfInBounds_toArray, List.set_cons_zero, List.set_cons_succ]
                    rfl
                  refine take_ (i := 16) (N := some 71) (v := ?_) (a' := ?_) #[true, true, true, true, true, true, true, true, true, true, true, false, true, true, true, true, true, false, false, false, false, false, false] rfl rfl (by kernel_rfl) (fun _ _ _ h => h) (Or.inl ⟨by rfl, ?_⟩) hHeld ?_ ?_
                  rotate_left
                  · rintro w' ⟨s0, s1, s2, s3⟩
                    go_simp
                    with_reducible rfl
                  rotate_left
                  · simp only [Act.put, List.setIfInBounds_toArray, List.set_cons_zero, List.set_cons_succ]
                    rfl
                  refine take_ (i := 17) (N := some 72) (v := ?_) (a' := ?_) #[true, true, true, true, true, true, true, true, true, true, true, false, true, true, true, true, true, true, false, false, false, false, false] rfl rfl (by kernel_rfl) (fun _ _ _ h => h) (Or.inl ⟨by rfl, ?_⟩) hHeld ?_ ?_
                  rotate_left
                  · rintro w' ⟨s0, s1, s2, s3⟩
                    go_simp
                    with_reducible rfl
                  rotate_left
                  · simp only [Act.put, List.setIfInBounds_toArray, List.set_cons_zero, List.set_cons_succ]
                    rfl
                  refine take_ (i := 18) (N := some 73) (v := ?_) (a' := ?_) #[true, true, true, true, true, true, true, true, true, true, true, false, true, true, true, true, true, true, true, false, false, false, false] rfl rfl (by kernel_rfl) (fun _ _ _ h => h) (Or.inl ⟨by rfl, ?_⟩) hHeld ?_ ?_
                  rotate_left
                  · rintro w' ⟨s0, s1, s2, s3⟩
                    go_simp
                    with_reducible rfl
                  rotate_left
                  · simp only [Act.put, List.setIfInBounds_toArray, List.set_cons_zero, List.set_cons_succ]
                    rfl
                  refine take_ (i := 19) (N := some 74) (v := ?_) (a' := ?_) #[true, true, true, true, true, true, true, true, true, true, true, false, true, true, true, true, true, true, true, true, false, false, false] rfl rfl (by kernel_rfl) (fun _ _ _ h => h) (Or.inl ⟨by rfl, ?_⟩) hHeld ?_ ?_
                  rotate_left
                  · rintro w' ⟨s0, s1, s2, s3⟩
                    go_simp
                    with_reducible rfl
                  rotate_left
                  · simp only [Act.put, List.setIfInBounds_toArray, List.set_cons_zero, List.set_cons_succ]
                    rfl
                  refine one_ (i := 11) (N := some 66) #[true, true, true, true, true, true, true, true, true, true, true, true, true, true, true, true, true, true, true, true, false, false, false] rfl rfl (by kernel_rfl) (by decide) (fun K hK => ?_)
                  refine goes_ Try.func22 (by kernel_rfl) rfl #[pt0 g2, .agg #[.int .i64 call, .string x, .string y, .int .i64 day]] (by rfl) rfl rfl (by (try simp only [List.map_toArray, List.map_cons, List.map_nil]); first | done | rfl) ?_
                  refine (do_any call x y day hx hy W0 w4.heap.size g2 m2 d b hbd hsm (by omega) (by omega)).mono ?_
                  rintro e W1 ⟨rfl, hb1, hB1, hK1⟩
                  refine ⟨_, rfl, ?_⟩
                  have hne1 : ¬ (wr.heap.size = g2 ∨ wr.heap.size = m2) := by omega
                  refine hK.out _ _ ⟨cell_kept hHeld.1 hK1 hne1, cell_kept hHeld.2.1 hK1 hne1, cell_kept hHeld.2.2.1 hK1 hne1, cell_kept hHeld.2.2.2 hK1 hne1⟩ (fun hHeld => ?_)
                  clear hK K
                  refine norm_ (a' := ?_) ?_ ?_
                  rotate_left
                  · show Act.put _ (some 66) _ = _
                    simp only [Act.put, List.setIfInBounds_toArray, List.set_cons_zero, List.set_cons_succ]
                    rfl
                  have hr1 : IsRef W1 w.heap.size q2 d b := hrd.kept hK1 (by have := hrd.ne hbd; rintro (e | e) <;> omega) hbd.noTexts
                  refine one_ (i := 20) (N := some 75) #[true, true, true, true, true, true, true, true, true, true, true, true, true, true, true, true, true, true, true, true, true, false, false] rfl rfl (by kernel_rfl) (by decide) (fun K hK => ?_)
                  refine goes_ Try.func25 (by kernel_rfl) rfl #[pt0 q2, .int .i64 call, .string x, .string y, .int .i64 day] (by rfl) rfl rfl (by (try simp only [List.map_toArray, List.map_cons, List.map_nil]); first | done | rfl) ?_
                  refine (RefDo_any call hc0 hc3 x y day hx hy W1 w.heap.size q2 d b hr1 (by omega) hst (Nat.le_trans hrlo (Nat.le_trans hBd.size hK1.1))).mono ?_
                  rintro e W2 ⟨rfl, hr2, hB2, hK2⟩
                  refine ⟨_, rfl, ?_⟩
                  have hne2 : ¬ wr.heap.size = q2 := by omega
                  refine hK.out _ _ ⟨cell_kept hHeld.1 hK2 hne2, cell_kept hHeld.2.1 hK2 hne2, cell_kept hHeld.2.2.1 hK2 hne2, cell_kept hHeld.2.2.2 hK2 hne2⟩ (fun hHeld => ?_)
                  clear hK K
                  refine norm_ (a' := ?_) ?_ ?_
                  rotate_left
                  · show Act.put _ (some 75) _ = _
                    simp only [Act.put, List.setIfInBounds_toArray, List.set_cons_zero, List.set_cons_succ]
                    rfl
                  have hb2 : IsBill W2 w4.heap.size g2 m2 d (doSt call x y day d b) := hb1.kept hK2 (by have := hr1.ne hb1; exact fun e => this.1 e.symm) (by have := hr1.ne hb1; exact fun e => this.2 e.symm)
                  refine pure_ (i := 21) (N := some 76) (v := ?_) (a' := ?_) #[true, true, true, true, true, true, true, true, true, true, true, true, true, true, true, true, true, true, true, true, true, true, false] rfl rfl (by kernel_rfl) (fun _ _ _ h => h) (Or.inl ⟨by rfl, ?_⟩) ?_ ?_
                  rotate_left
                  · intro w'
                    go_simp
                    with_reducible rfl
                  rotate_left
                  · simp only [Act.put, List.setIfInBounds_toArray, List.set_cons_zero, List.set_cons_succ]
                    rfl
                  refine pure_ (i := 22) (N := some 77) (v := ?_) (a' := ?_) #[true, true, true, true, true, true, true, true, true, true, true, true, true, true, true, true, true, true, true, true, true, true, true] rfl rfl (by kernel_rfl) (fun _ _ _ h => h) (Or.inl ⟨by rfl, ?_⟩) ?_ ?_
                  rotate_left
                  · intro w'
                    go_simp
                    with_reducible rfl
                  rotate_left
                  · simp only [Act.put, List.setIfInBounds_toArray, List.set_cons_zero, List.set_cons_succ]
                    rfl
                  refine done_ (by kernel_rfl) ?_
                  have hBW : Below w.heap.size w W2 := ((below_up hB hBd).trans (hB1.mono hNle)).trans hB2
                  have hkA1 : Kept W0 W1 (fun k => k = g2 ∨ k = m2) := hK1
                  have hu0 : IsBill W0 w.heap.size g m d b0 := hu.below hBd
                  have hv0 : IsRef W0 w.heap.size q d b0 := hv.below hBd
                  have hu1 : IsBill W1 w.heap.size g m d b0 := hu0.kept hK1 (by rintro (e | e) <;> omega) (by rintro (e | e) <;> omega)
                  have hv1 : IsRef W1 w.heap.size q d b0 := hv0.kept hK1 (by rintro (e | e) <;> omega) hbd.noTexts
                  have hu2 : IsBill W2 w.heap.size g m d b0 := hu1.kept hK2 (by omega) (by omega)
                  have hv2 : IsRef W2 w.heap.size q d b0 := hv1.kept hK2 (by omega) hr1.noTexts
                  go_wp2_with fail
                  go_roundw
                  case measure => simp [intOf]; omega
                  case rel => exact ⟨i + 1, _, by omega, by go_num, hu2, hv2, hb2, hr2, hI2, hBW⟩
                · have t3 : decide (call ≤ 3) = false := decide_eq_false hc3
                  clear hc0 hc3 hszB
                  go_wp2_with fail
                  go_quiet (fail)
                  go_wp2_with fail
                  go_roundw
                  case measure => simp [intOf]; omega
                  case rel => exact ⟨i + 1, b, by omega, by go_num, (hu.below hBB).below (pw_below_drewN (Below.refl _ _) _), (hv.below hBB).below (pw_below_drewN (Below.refl _ _) _), hbB.below (pw_below_drewN (Below.refl _ _) _), hrB.below (pw_below_drewN (Below.refl _ _) _), HI.out.mono (by omega), pw_below_drewN (below_up hB hBB) _⟩
              · have t0 : decide (0 ≤ call) = false := decide_eq_false hc0
                clear hc0 hszB
                go_wp2_with fail
                go_quiet (fail)
                go_wp2_with fail
                go_roundw
                case measure => simp [intOf]; omega
                case rel => exact ⟨i + 1, b, by omega, by go_num, (hu.below hBB).below (pw_below_drewN (Below.refl _ _) _), (hv.below hBB).below (pw_below_drewN (Below.refl _ _) _), hbB.below (pw_below_drewN (Below.refl _ _) _), hrB.below (pw_below_drewN (Below.refl _ _) _), HI.out.mono (by omega), pw_below_drewN (below_up hB hBB) _⟩
            · obtain rfl : i = l2.length := by omega
              have hp0 := HI0.len
              have hs0 := small_of hS HI0.hs (by omega)
              have hp2 := HI.out.len
              have hs2 := small_of hS HI.out.hs (by omega)
              generalize wr = wz at hu hv hb hrf hB ⊢
              have cE := even_any wz w.heap.size w.heap.size g m q d b0 hu hv hs0 (by omega)
              go_wp2_with fail
              refine cE.mono ?_
              rintro e wy ⟨rfl, hBy⟩
              have cE2 := even_any wy w4.heap.size w.heap.size g2 m2 q2 d b (hb.below hBy) (hrf.below hBy) hs2 (by omega)
              go_wp2_with fail
              refine cE2.mono ?_
              rintro e wx ⟨rfl, hBx⟩
              go_wp2_with fail
              go_ret
              exact ⟨rfl, below_up (below_up hB hBy) hBx⟩
end Go.Proofs.Ytcmjgkmnbenniaa.Ext
