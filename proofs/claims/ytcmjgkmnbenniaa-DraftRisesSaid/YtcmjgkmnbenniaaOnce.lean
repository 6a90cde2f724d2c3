/- DraftOnce's walk. Written by wip/once.py. -/
import Derived.Test.YtcmjgkmnbenniaaDo
import Derived.IntWalk
namespace Go.Proofs.Ytcmjgkmnbenniaa.Ext
open Go.RowKit Go.Maps Go.WideMaps Go.Proofs.YtcmjgkmnbenniaaW.PrintWords Go.Proofs.YtcmjgkmnbenniaaW.PrintLast
theorem long_case (d : Dr) : ∃ rl, X.supercargolaw38_long.f d.num d.drawer d.drawee d.payee d.cur d.amt d.kind d.days d.frm = some rl ∧ (rl = false → Short d) := by
  unfold X.supercargolaw38_long.f
  by_cases h1 : (d.num.size : Int) > 100
  · exact ⟨true, if_pos h1, fun h => by cases h⟩
  by_cases h2 : (d.drawer.size : Int) > 100
  · exact ⟨true, by rw [if_neg h1, if_pos h2], fun h => by cases h⟩
  by_cases h3 : (d.drawee.size : Int) > 100
  · exact ⟨true, by rw [if_neg h1, if_neg h2, if_pos h3], fun h => by cases h⟩
  by_cases h4 : (d.payee.size : Int) > 100
  · exact ⟨true, by rw [if_neg h1, if_neg h2, if_neg h3, if_pos h4], fun h => by cases h⟩
  · exact ⟨_, by rw [if_neg h1, if_neg h2, if_neg h3, if_neg h4], fun _ => ⟨by omega, by omega, by omega, by omega⟩⟩
/-- Deeds that are gone through. -/
structure Fine (l : List X.S46) (n : Nat) : Prop where
  len : l.length ≤ n
  short : ∀ i : Nat, i < l.length → (X.rd_T46 l i).f1.size ≤ 100 ∧ (X.rd_T46 l i).f2.size ≤ 100
theorem heavy_l (l : List X.S46) (hl : l.length ≤ 5000) (e : Nat) : ∀ (k i : Nat), i + e = l.length → e < k →
    ∃ r, X.supercargolaw38_heavy.l0 k l (i : Int) = some r ∧ (r = false → ∀ j : Nat, i ≤ j → j < l.length → (X.rd_T46 l j).f1.size ≤ 100 ∧ (X.rd_T46 l j).f2.size ≤ 100) := by
  induction e with
  | zero =>
    intro k i h hk
    obtain ⟨k, rfl⟩ : ∃ m, k = m + 1 := ⟨k - 1, by omega⟩
    refine ⟨false, ?_, fun _ j h1 h2 => by omega⟩
    simp only [X.supercargolaw38_heavy.l0]
    rw [if_neg (by omega)]
  | succ e ih =>
    intro k i h hk
    obtain ⟨k, rfl⟩ : ∃ m, k = m + 1 := ⟨k - 1, by omega⟩
    simp only [X.supercargolaw38_heavy.l0]
    rw [if_pos (by omega), if_pos (by omega)]
    by_cases h1 : ((X.rd_T46 l (i : Int)).f1.size : Int) > 100
    · exact ⟨true, if_pos h1, fun h => by cases h⟩
    by_cases h2 : ((X.rd_T46 l (i : Int)).f2.size : Int) > 100
    · exact ⟨true, by rw [if_neg h1, if_pos h2], fun h => by cases h⟩
    obtain ⟨r, h3, h4⟩ := ih k (i + 1) (by omega) (by omega)
    refine ⟨r, by rw [if_neg h1, if_neg h2, w64 (by omega) (by omega), show ((i : Int) + 1) = ((i + 1 : Nat) : Int) by omega, h3], fun hr j g1 g2 => ?_⟩
    by_cases e : j = i
    · subst e; exact ⟨by omega, by omega⟩
    · exact h4 hr j (by omega) g2
theorem heavy_case (l : List X.S46) (n : Nat) (hn : n ≤ 1000 := by decide) : ∃ r, X.supercargolaw38_heavy.f 2000 l n = some r ∧ (r = false → Fine l n) := by
  unfold X.supercargolaw38_heavy.f
  by_cases h : (l.length : Int) > n
  · exact ⟨true, if_pos h, fun h => by cases h⟩
  · obtain ⟨r, h1, h2⟩ := heavy_l l (by omega) l.length 2000 0 (by omega) (by omega)
    exact ⟨r, by rw [if_neg h]; exact h1, fun hr => ⟨by omega, fun i hi => h2 hr i (Nat.zero_le _) hi⟩⟩
/-- What DraftOnce's loop keeps: paid or not. -/
def PaidIs (p : Int) (b : St) : Prop := (p = 0 ∧ b.state ≠ 2) ∨ (p = 1 ∧ b.state = 2)
theorem keepw {w W : World} {p : Addr} {v : Value} (hB : Below w.heap.size w W) (h : w.cell? p = some v) : W.cell? p = some v := (hB.cell (World.block_lt_of_cell? w _ h)).trans h
theorem liabB_nil {d : Dr} {b : St} (h : b.state = 2) : liabB d b = [] := by unfold liabB liabL; rw [if_pos h]; rfl
theorem liabB_map (d : Dr) (b : St) : (liabB d b).map bl = liabL d b := by
  unfold liabB
  rw [List.map_map]
  conv => rhs; rw [← List.map_id (liabL d b)]
  exact List.map_congr_left fun t _ => rfl
theorem liabB_getD {d : Dr} {b : St} {j : Nat} (h : j < (liabB d b).length) : ∃ z, rdOf ByteArray.empty (liabB d b) (j : Int) = z ∧ (liabL d b)[j]? = some (bl z) := by
  refine ⟨_, rfl, ?_⟩
  rw [← liabB_map, List.getElem?_map]
  unfold rdOf
  rw [Int.toNat_natCast, List.getD_eq_getElem?_getD, List.getElem?_eq_getElem h]
  rfl
theorem liab_holder {d : Dr} {b : St} {z : ByteArray} {j : Nat} (h : (liabL d b)[j]? = some (bl z)) : (z.toList == b.holder.toList) = false := by
  rw [beq_eq_false_iff_ne, ByteArray.toList_eq, ByteArray.toList_eq]
  exact ((liab_mem d b (bl z)).1 (List.mem_of_getElem? h)).2.1
theorem liab_step {d : Dr} {b : St} {y z : ByteArray} {j : Nat} (h : (liabL d b)[j]? = some (bl y)) (h2 : (liabL d b)[j + 1]? = some (bl z)) : Op.bytesLess y.toList z.toList = true := by
  rw [Go.Proofs.bytesLess_eq, ByteArray.toList_eq, ByteArray.toList_eq, decide_eq_true_eq]
  obtain ⟨l1, e1⟩ := List.getElem?_eq_some_iff.1 h
  obtain ⟨l2, e2⟩ := List.getElem?_eq_some_iff.1 h2
  have := List.pairwise_iff_getElem.1 (liab_sorted d b) j (j + 1) l1 l2 (Nat.lt_succ_self j)
  rw [e1, e2] at this
  exact this
set_option maxHeartbeats 8000000 in
set_option maxRecDepth 100000 in
theorem Once_any (d : Dr) (l : List X.S46) (A : Option Addr) (c : Nat) (w : World) (hr : Kd.C X.k46 w A l.length l) (hc : l.length ≤ c) :
    Calls Try.prog 4 #[.agg d.arr, .slice A l.length c] w fun e w' => e = .returned (.bool true) ∧ Below w.heap.size w w' := by
  have hu25 := Try.underlying25
  unfold Dr.arr
  go_enter Try.func4, Try.ntmps4
  go_wp2_with fail
  refine (awake_any _).mono ?_
  rintro e w1 ⟨rfl, hB1'⟩
  have hB1 : Below w.heap.size w w1 := below_up (below_alloc (Below.refl _ _) _) hB1'
  have hbox : w1.heap[w.heap.size]? = some (.cells #[.string d.num, .string d.drawer, .string d.drawee, .string d.payee, .string d.cur, .int .i64 d.amt, .int .i64 d.kind, .int .i64 d.days, .int .i64 d.frm] 25 (0, 0)) := blk_below (blk_new w _) hB1'
  clear hB1'
  have q0 : w1.cell? ⟨w.heap.size, 0, none⟩ = some (.string d.num) := (blk_cell hbox 0).trans rfl
  have q1 : w1.cell? ⟨w.heap.size, 1, none⟩ = some (.string d.drawer) := (blk_cell hbox 1).trans rfl
  have q2 : w1.cell? ⟨w.heap.size, 2, none⟩ = some (.string d.drawee) := (blk_cell hbox 2).trans rfl
  have q3 : w1.cell? ⟨w.heap.size, 3, none⟩ = some (.string d.payee) := (blk_cell hbox 3).trans rfl
  have q4 : w1.cell? ⟨w.heap.size, 4, none⟩ = some (.string d.cur) := (blk_cell hbox 4).trans rfl
  have q5 : w1.cell? ⟨w.heap.size, 5, none⟩ = some (.int .i64 d.amt) := (blk_cell hbox 5).trans rfl
  have q6 : w1.cell? ⟨w.heap.size, 6, none⟩ = some (.int .i64 d.kind) := (blk_cell hbox 6).trans rfl
  have q7 : w1.cell? ⟨w.heap.size, 7, none⟩ = some (.int .i64 d.days) := (blk_cell hbox 7).trans rfl
  have q8 : w1.cell? ⟨w.heap.size, 8, none⟩ = some (.int .i64 d.frm) := (blk_cell hbox 8).trans rfl
  have hrl := long_case d
  obtain ⟨rl, hlf, hshort⟩ := hrl
  have cL := X.supercargolaw38_long.calls d.num d.drawer d.drawee d.payee d.cur d.amt d.kind d.days d.frm rl w1 hlf
  clear hlf
  cases rl with
  | true =>
    go_wp2_with fail
    refine cL.mono ?_
    rintro e w2 ⟨rfl, hB2⟩
    go_wp2_with fail
    go_ret
    exact ⟨rfl, below_up hB1 hB2⟩
  | false =>
    have hS := hshort rfl
    clear hshort
    obtain ⟨rh, hhf, hfine⟩ := heavy_case l 30
    cases rh with
    | true =>
      go_wp2_with fail
      refine cL.mono ?_
      rintro e w2 ⟨rfl, hB2⟩
      have hB02 := below_up hB1 hB2
      have cH := X.supercargolaw38_heavy.calls 2000 A c l 30 true w2 (Kd.C_below hr hB02) hc hhf
      go_wp2_with fail
      refine cH.mono ?_
      rintro e w' ⟨rfl, nd, rfl⟩
      go_wp2_with fail
      go_ret
      exact ⟨rfl, pw_below_drewN hB02 nd⟩
    | false =>
      have hF := hfine rfl
      clear hfine
      go_wp2_with fail
      refine cL.mono ?_
      rintro e w2 ⟨rfl, hB2⟩
      have hB02' := below_up hB1 hB2
      have cH := X.supercargolaw38_heavy.calls 2000 A c l 30 false w2 (Kd.C_below hr hB02') hc hhf
      clear hhf
      go_wp2_with fail
      refine cH.mono ?_
      rintro e w' ⟨rfl, nd, rfl⟩
      have hB02 : Below w.heap.size w (w2.drewN nd) := pw_below_drewN hB02' nd
      replace hbox := blk_below (blk_below hbox hB2) (pw_below_drewN (Below.refl w2.heap.size w2) nd)
      generalize w2.drewN nd = wh at hB02 hbox ⊢
      clear q0 q1 q2 q3 q4 q5 q6 q7 q8 hB2 hB02' cL cH
      have q0 : wh.cell? ⟨w.heap.size, 0, none⟩ = some (.string d.num) := (blk_cell hbox 0).trans rfl
      have q1 : wh.cell? ⟨w.heap.size, 1, none⟩ = some (.string d.drawer) := (blk_cell hbox 1).trans rfl
      have q2 : wh.cell? ⟨w.heap.size, 2, none⟩ = some (.string d.drawee) := (blk_cell hbox 2).trans rfl
      have q3 : wh.cell? ⟨w.heap.size, 3, none⟩ = some (.string d.payee) := (blk_cell hbox 3).trans rfl
      have q4 : wh.cell? ⟨w.heap.size, 4, none⟩ = some (.string d.cur) := (blk_cell hbox 4).trans rfl
      have q5 : wh.cell? ⟨w.heap.size, 5, none⟩ = some (.int .i64 d.amt) := (blk_cell hbox 5).trans rfl
      have q6 : wh.cell? ⟨w.heap.size, 6, none⟩ = some (.int .i64 d.kind) := (blk_cell hbox 6).trans rfl
      have q7 : wh.cell? ⟨w.heap.size, 7, none⟩ = some (.int .i64 d.days) := (blk_cell hbox 7).trans rfl
      have q8 : wh.cell? ⟨w.heap.size, 8, none⟩ = some (.int .i64 d.frm) := (blk_cell hbox 8).trans rfl
      have cM := X.supercargoref38_May.calls 120 d.num d.drawer d.drawee d.payee d.cur d.amt d.kind d.days d.frm (mayB d) wh (may38_f d hS 120 (by omega))
      obtain ⟨rm, hrm⟩ : ∃ rm, mayB d = rm := ⟨_, rfl⟩
      rw [hrm] at cM
      go_wp2_with fail
      refine cM.mono ?_
      rintro e w3 ⟨rfl, hB3⟩
      have hB03 := below_up hB02 hB3
      replace hbox := blk_below hbox hB3
      clear q0 q1 q2 q3 q4 q5 q6 q7 q8
      have q0 : w3.cell? ⟨w.heap.size, 0, none⟩ = some (.string d.num) := (blk_cell hbox 0).trans rfl
      have q1 : w3.cell? ⟨w.heap.size, 1, none⟩ = some (.string d.drawer) := (blk_cell hbox 1).trans rfl
      have q2 : w3.cell? ⟨w.heap.size, 2, none⟩ = some (.string d.drawee) := (blk_cell hbox 2).trans rfl
      have q3 : w3.cell? ⟨w.heap.size, 3, none⟩ = some (.string d.payee) := (blk_cell hbox 3).trans rfl
      have q4 : w3.cell? ⟨w.heap.size, 4, none⟩ = some (.string d.cur) := (blk_cell hbox 4).trans rfl
      have q5 : w3.cell? ⟨w.heap.size, 5, none⟩ = some (.int .i64 d.amt) := (blk_cell hbox 5).trans rfl
      have q6 : w3.cell? ⟨w.heap.size, 6, none⟩ = some (.int .i64 d.kind) := (blk_cell hbox 6).trans rfl
      have q7 : w3.cell? ⟨w.heap.size, 7, none⟩ = some (.int .i64 d.days) := (blk_cell hbox 7).trans rfl
      have q8 : w3.cell? ⟨w.heap.size, 8, none⟩ = some (.int .i64 d.frm) := (blk_cell hbox 8).trans rfl
      cases rm with
      | false =>
        go_wp2_with fail
        go_ret
        exact ⟨rfl, hB03⟩
      | true =>
        have cN := New_any 2 d w3 (by rw [mayd_f d hS 2 (by omega), hrm])
        unfold Dr.arr at cN
        have hmay := Lib.hid hrm
        clear hrm
        have hbox3 := hbox
        go_wp2_with fail
        refine cN.mono ?_
        rintro e w4 ⟨g, m, rfl, hb4, hB4⟩
        have hB04 := below_up hB03 hB4
        replace hbox := blk_below hbox hB4
        clear q0 q1 q2 q3 q4 q5 q6 q7 q8
        have hlow : w.heap.size < w3.heap.size := blk_lt hbox3
        have hlo4 : w3.heap.size ≤ w4.heap.size := hB4.size
        have hF30 := hF.len
        have HP0 : Aside (PaidIs 0 (newSt d)) := .inl ⟨rfl, by show (0 : Int) ≠ 2; decide⟩
        go_wp2_with fail
        go_loopw [7, 8] (fun v7 v8 wr => ∃ (i : Nat) (b : St) (p : Int), i ≤ l.length ∧ v8 = .int .i64 i ∧ v7 = .int .i64 p ∧ Aside (PaidIs p b) ∧ b.passed.length ≤ i ∧ b.holder.size ≤ 100 ∧ IsBill wr w3.heap.size g m d b ∧ Below w.heap.size w wr) (fun _ v8 _ => l.length - (intOf v8).toNat)
        case atStart => exact ⟨0, newSt d, 0, Nat.zero_le _, rfl, rfl, HP0, Nat.zero_le _, hS.h4, hb4, hB04⟩
        case round =>
          obtain ⟨i, b, p, hi, rfl, rfl, HP, hpl, hbh, hb, hB⟩ := hrel
          by_cases hlt : i < l.length
          · obtain ⟨ad, eA, e0, e1, e2, e3⟩ := X.at_T46 hr (i : Int) (by omega) (by omega)
            subst eA
            obtain ⟨hx, hy⟩ := hF.short i hlt
            generalize X.rd_T46 l (i : Int) = z at e0 e1 e2 e3 hx hy
            obtain ⟨call, x, y, day⟩ := z
            simp only [Int.toNat_natCast] at e0 e1 e2 e3 hx hy
            have a0 := keepw hB e0
            have a1 := keepw hB e1
            have a2 := keepw hB e2
            have a3 := keepw hB e3
            have hltg := hb.ltg
            have hlog := hb.log
            have hll : wr.heap.size ≥ w3.heap.size := by omega
            have hsm := small_of hS hbh (by omega)
            have cD := do_any call x y day hx hy wr w3.heap.size g m d b hb hsm (by omega) hll
            have hsm' : Small d (doSt call x y day d b) := do_small hS hy hbh hpl (by omega)
            have hpl' := do_len call x y day d b
            have hbh' := do_holder call x y day d b hy hbh
            have hz := do_zero (call := call) (x := x) (y := y) (day := day) (d := d) (b := b)
            have hbad := do_bad (call := call) (x := x) (y := y) (day := day) (d := d) (b := b)
            obtain ⟨cc, hcc⟩ : ∃ cc, doCode call x y day d b = cc := ⟨_, rfl⟩
            obtain ⟨b', hbe⟩ : ∃ b', doSt call x y day d b = b' := ⟨_, rfl⟩
            rw [hcc, hbe] at cD
            rw [hbe] at hsm' hpl' hbh'
            rw [hcc, hbe] at hz hbad
            have hpl2 : b'.passed.length ≤ i + 1 := by omega
            clear hpl' hcc hbe hltg hlog
            rcases HP.out with ⟨rfl, hst⟩ | ⟨rfl, hst⟩
            · by_cases hc0 : cc = 0
              · subst hc0
                replace hz := hz rfl
                clear hbad
                by_cases h2 : call = 2
                · have hst' : b'.state = 2 := by rcases hz with ⟨q, _, _, e⟩ | ⟨q, _, _, _, _, e⟩ | ⟨q, _, e⟩ | ⟨q, _, e⟩ <;> first | omega | rw [e]
                  have HP' : Aside (PaidIs 1 b') := .inr ⟨rfl, hst'⟩
                  have hnil := liabB_nil (d := d) hst'
                  subst h2
                  clear hz hst HP
                  have cS := fun W (hW : IsBill W w3.heap.size g m d b') => State_any W w3.heap.size g m d b' hW
                  rw [hst'] at cS
                  go_wp2_with fail
                  refine cD.mono ?_
                  rintro e wd ⟨rfl, hb', hBD, hKD⟩
                  have hBw : Below w.heap.size w wd := hB.trans (hBD.mono (Nat.le_of_lt hlow))
                  have d0 := keepw hBw e0
                  have cLi := Liable_any wd w3.heap.size g m d b' hb' hsm'
                  go_wp2_with fail
                  refine cLi.mono ?_
                  rintro e w8 ⟨v, rfl, hrow, hB8⟩
                  obtain ⟨A3, c3, rfl, hC3, hc3⟩ := liab_slice hrow
                  have hb8 := hb'.below hB8
                  have hB8w := below_up hBw hB8
                  have cS8 := cS w8 hb8
                  clear hrow
                  rw [hnil] at hC3 hc3 ⊢
                  go_wp2_with fail
                  refine cS8.mono ?_
                  rintro e w' ⟨rfl, rfl⟩
                  go_wp2_with fail
                  go_loopw [11] (fun v11 w2 => v11 = .int .i64 0 ∧ Below w8.heap.size w8 w2) (fun v11 _ => 0)
                  case atStart => exact ⟨rfl, Below.refl _ _⟩
                  case round =>
                    obtain ⟨rfl, hB2⟩ := hrel
                    go_wp2_with fail
                    go_roundw
                    case measure => simp [intOf]; omega
                    case rel => exact ⟨i + 1, b', 1, by omega, by go_num, rfl, HP', by omega, hbh', hb8.below hB2, hB8w.trans (hB2.mono hB8w.size)⟩
                · have hst' : b'.state ≠ 2 := by
                    rcases hz with ⟨q, _, _, e⟩ | ⟨q, h, _, _, _, e⟩ | ⟨q, _, e⟩ | ⟨q, _, e⟩
                    · rw [e]; show (1 : Int) ≠ 2; decide
                    · rw [e]; exact hst
                    · exact absurd q h2
                    · rw [e]; show (3 : Int) ≠ 2; decide
                  have HP' : Aside (PaidIs 0 b') := .inl ⟨rfl, hst'⟩
                  have hstb : (b'.state == 2) = false := by simp [hst']
                  have h2b : (call == 2) = false := by simp [h2]
                  clear hz hst HP h2 hst'
                  have cS := fun W (hW : IsBill W w3.heap.size g m d b') => State_any W w3.heap.size g m d b' hW
                  go_wp2_with fail
                  refine cD.mono ?_
                  rintro e wd ⟨rfl, hb', hBD, hKD⟩
                  have hBw : Below w.heap.size w wd := hB.trans (hBD.mono (Nat.le_of_lt hlow))
                  have d0 := keepw hBw e0
                  have cLi := Liable_any wd w3.heap.size g m d b' hb' hsm'
                  go_wp2_with fail
                  refine cLi.mono ?_
                  rintro e w8 ⟨v, rfl, hrow, hB8⟩
                  obtain ⟨A3, c3, rfl, hC3, hc3⟩ := liab_slice hrow
                  have hb8 := hb'.below hB8
                  have hB8w := below_up hBw hB8
                  have cS8 := cS w8 hb8
                  clear hrow
                  go_wp2_with fail
                  refine cS8.mono ?_
                  rintro e w' ⟨rfl, rfl⟩
                  go_wp2_with fail
                  go_loopw [11] (fun v11 w2 => ∃ j : Nat, j ≤ (liabB d b').length ∧ v11 = .int .i64 j ∧ Below w8.heap.size w8 w2) (fun v11 _ => (liabB d b').length - (intOf v11).toNat)
                  case atStart => exact ⟨0, Nat.zero_le _, rfl, Below.refl _ _⟩
                  case round =>
                    obtain ⟨j, hj, rfl, hB2⟩ := hrel
                    generalize wr = wi at hB2 ⊢
                    have hLl : (liabB d b').length ≤ 40 := by have h1 := liab_length d b'; have h2 : (liabB d b').length = (liabL d b').length := by simp [liabB]
                                                              omega
                    by_cases hlj : j < (liabB d b').length
                    · obtain ⟨ad2, eA2, hcz0⟩ := Kd.at_string hC3 (j : Int) (by omega) (by omega)
                      obtain ⟨z, hz, hzj⟩ := liabB_getD hlj
                      rw [hz, Int.toNat_natCast] at hcz0
                      clear hz
                      have hcz := keepc hB2 hcz0
                      have hzh := liab_holder hzj
                      have hb2 := hb8.below hB2
                      have hH := fun n => (Holder_any (wi.drewN n) w3.heap.size g m d b' (hb2.below (pw_below_drewN (Below.refl _ _) n))).mono fun _ _ q => (⟨q.1, q.2.symm⟩ : _ ∧ _ = wi.drewN n)
                      by_cases hj0 : j = 0
                      · have t0 : decide (0 < j) = false := decide_eq_false (by omega)
                        have t1 : decide (0 < (j : Int)) = false := decide_eq_false (by omega)
                        subst eA2
                        clear hj0
                        go_wp2_with fail
                        go_quiet ((go_at_call 16; exact Calls.quiet_of_same (hH _)))
                        go_wp2_with fail
                        go_roundw
                        case measure => simp [intOf]; omega
                        case rel => exact ⟨j + 1, by omega, by go_num, pw_below_drewN hB2 _⟩
                      · obtain ⟨j1, hj1⟩ : ∃ j1, j = j1 + 1 := ⟨j - 1, by omega⟩
                        have t0 : decide (0 < j) = true := decide_eq_true (by omega)
                        have t1 : decide (0 < (j : Int)) = true := decide_eq_true (by omega)
                        obtain ⟨ad3, eA3, hcy0⟩ := Kd.at_string hC3 (j1 : Int) (by omega) (by omega)
                        rw [eA2] at eA3
                        obtain rfl := Option.some.inj eA3
                        subst eA2
                        obtain ⟨y2, hy0, hyj⟩ := liabB_getD (d := d) (b := b') (j := j1) (by omega)
                        rw [hy0, Int.toNat_natCast] at hcy0
                        clear hy0
                        have hcy := keepc hB2 hcy0
                        rw [hj1] at hzj
                        have hls := liab_step hyj hzj
                        have hw1 : IntKind.i64.wrap ((j : Int) - 1) = (j1 : Int) := by rw [IntWalk.i64_in _ (by omega)]; omega
                        have hj1l : (j1 : Int) < ((liabB d b').length : Int) := by omega
                        have hH1 := Lib.hid hj1
                        clear hj0 hj1
                        go_wp2_with fail
                        go_quiet ((go_at_call 16; exact Calls.quiet_of_same (hH _)))
                        go_wp2_with fail
                        go_roundw
                        case measure => simp [intOf]; omega
                        case rel => exact ⟨j + 1, by omega, by go_num, pw_below_drewN hB2 _⟩
                    · obtain rfl : j = (liabB d b').length := by omega
                      go_wp2_with fail
                      go_roundw
                      case measure => simp [intOf]; omega
                      case rel => exact ⟨i + 1, b', 0, by omega, by go_num, rfl, HP', by omega, hbh', hb8.below hB2, hB8w.trans (hB2.mono hB8w.size)⟩
              · have hcb : (cc == 0) = false := by simp [hc0]
                have hst' : b'.state ≠ 2 := by rw [hbad hc0]; exact hst
                have HP' : Aside (PaidIs 0 b') := .inl ⟨rfl, hst'⟩
                have hstb : (b'.state == 2) = false := by simp [hst']
                clear hz hbad hst HP hc0 hst'
                have cS := fun W (hW : IsBill W w3.heap.size g m d b') => State_any W w3.heap.size g m d b' hW
                go_wp2_with fail
                refine cD.mono ?_
                rintro e wd ⟨rfl, hb', hBD, hKD⟩
                have hBw : Below w.heap.size w wd := hB.trans (hBD.mono (Nat.le_of_lt hlow))
                have d0 := keepw hBw e0
                have cLi := Liable_any wd w3.heap.size g m d b' hb' hsm'
                go_wp2_with fail
                refine cLi.mono ?_
                rintro e w8 ⟨v, rfl, hrow, hB8⟩
                obtain ⟨A3, c3, rfl, hC3, hc3⟩ := liab_slice hrow
                have hb8 := hb'.below hB8
                have hB8w := below_up hBw hB8
                have cS8 := cS w8 hb8
                clear hrow
                go_wp2_with fail
                refine cS8.mono ?_
                rintro e w' ⟨rfl, rfl⟩
                go_wp2_with fail
                go_loopw [11] (fun v11 w2 => ∃ j : Nat, j ≤ (liabB d b').length ∧ v11 = .int .i64 j ∧ Below w8.heap.size w8 w2) (fun v11 _ => (liabB d b').length - (intOf v11).toNat)
                case atStart => exact ⟨0, Nat.zero_le _, rfl, Below.refl _ _⟩
                case round =>
                  obtain ⟨j, hj, rfl, hB2⟩ := hrel
                  generalize wr = wi at hB2 ⊢
                  have hLl : (liabB d b').length ≤ 40 := by have h1 := liab_length d b'; have h2 : (liabB d b').length = (liabL d b').length := by simp [liabB]
                                                            omega
                  by_cases hlj : j < (liabB d b').length
                  · obtain ⟨ad2, eA2, hcz0⟩ := Kd.at_string hC3 (j : Int) (by omega) (by omega)
                    obtain ⟨z, hz, hzj⟩ := liabB_getD hlj
                    rw [hz, Int.toNat_natCast] at hcz0
                    clear hz
                    have hcz := keepc hB2 hcz0
                    have hzh := liab_holder hzj
                    have hb2 := hb8.below hB2
                    have hH := fun n => (Holder_any (wi.drewN n) w3.heap.size g m d b' (hb2.below (pw_below_drewN (Below.refl _ _) n))).mono fun _ _ q => (⟨q.1, q.2.symm⟩ : _ ∧ _ = wi.drewN n)
                    by_cases hj0 : j = 0
                    · have t0 : decide (0 < j) = false := decide_eq_false (by omega)
                      have t1 : decide (0 < (j : Int)) = false := decide_eq_false (by omega)
                      subst eA2
                      clear hj0
                      go_wp2_with fail
                      go_quiet ((go_at_call 16; exact Calls.quiet_of_same (hH _)))
                      go_wp2_with fail
                      go_roundw
                      case measure => simp [intOf]; omega
                      case rel => exact ⟨j + 1, by omega, by go_num, pw_below_drewN hB2 _⟩
                    · obtain ⟨j1, hj1⟩ : ∃ j1, j = j1 + 1 := ⟨j - 1, by omega⟩
                      have t0 : decide (0 < j) = true := decide_eq_true (by omega)
                      have t1 : decide (0 < (j : Int)) = true := decide_eq_true (by omega)
                      obtain ⟨ad3, eA3, hcy0⟩ := Kd.at_string hC3 (j1 : Int) (by omega) (by omega)
                      rw [eA2] at eA3
                      obtain rfl := Option.some.inj eA3
                      subst eA2
                      obtain ⟨y2, hy0, hyj⟩ := liabB_getD (d := d) (b := b') (j := j1) (by omega)
                      rw [hy0, Int.toNat_natCast] at hcy0
                      clear hy0
                      have hcy := keepc hB2 hcy0
                      rw [hj1] at hzj
                      have hls := liab_step hyj hzj
                      have hw1 : IntKind.i64.wrap ((j : Int) - 1) = (j1 : Int) := by rw [IntWalk.i64_in _ (by omega)]; omega
                      have hj1l : (j1 : Int) < ((liabB d b').length : Int) := by omega
                      have hH1 := Lib.hid hj1
                      clear hj0 hj1
                      go_wp2_with fail
                      go_quiet ((go_at_call 16; exact Calls.quiet_of_same (hH _)))
                      go_wp2_with fail
                      go_roundw
                      case measure => simp [intOf]; omega
                      case rel => exact ⟨j + 1, by omega, by go_num, pw_below_drewN hB2 _⟩
                  · obtain rfl : j = (liabB d b').length := by omega
                    go_wp2_with fail
                    go_roundw
                    case measure => simp [intOf]; omega
                    case rel => exact ⟨i + 1, b', 0, by omega, by go_num, rfl, HP', by omega, hbh', hb8.below hB2, hB8w.trans (hB2.mono hB8w.size)⟩
            · have hc0 : cc ≠ 0 := by
                rintro rfl
                rcases hz rfl with ⟨q, h, _, e⟩ | ⟨q, h, _, _, _, e⟩ | ⟨q, h, e⟩ | ⟨q, h, e⟩ <;> omega
              have hcb : (cc == 0) = false := by simp [hc0]
              have hst' : b'.state = 2 := by rw [hbad hc0]; exact hst
              have HP' : Aside (PaidIs 1 b') := .inr ⟨rfl, hst'⟩
              have hnil := liabB_nil (d := d) hst'
              clear hz hbad hst HP hc0
              have cS := fun W (hW : IsBill W w3.heap.size g m d b') => State_any W w3.heap.size g m d b' hW
              rw [hst'] at cS
              go_wp2_with fail
              refine cD.mono ?_
              rintro e wd ⟨rfl, hb', hBD, hKD⟩
              have hBw : Below w.heap.size w wd := hB.trans (hBD.mono (Nat.le_of_lt hlow))
              have d0 := keepw hBw e0
              have cLi := Liable_any wd w3.heap.size g m d b' hb' hsm'
              go_wp2_with fail
              refine cLi.mono ?_
              rintro e w8 ⟨v, rfl, hrow, hB8⟩
              obtain ⟨A3, c3, rfl, hC3, hc3⟩ := liab_slice hrow
              have hb8 := hb'.below hB8
              have hB8w := below_up hBw hB8
              have cS8 := cS w8 hb8
              clear hrow
              rw [hnil] at hC3 hc3 ⊢
              go_wp2_with fail
              refine cS8.mono ?_
              rintro e w' ⟨rfl, rfl⟩
              go_wp2_with fail
              go_loopw [11] (fun v11 w2 => v11 = .int .i64 0 ∧ Below w8.heap.size w8 w2) (fun v11 _ => 0)
              case atStart => exact ⟨rfl, Below.refl _ _⟩
              case round =>
                obtain ⟨rfl, hB2⟩ := hrel
                go_wp2_with fail
                go_roundw
                case measure => simp [intOf]; omega
                case rel => exact ⟨i + 1, b', 1, by omega, by go_num, rfl, HP', by omega, hbh', hb8.below hB2, hB8w.trans (hB2.mono hB8w.size)⟩
          · obtain rfl : i = l.length := by omega
            go_wp2_with fail
            go_ret
            exact ⟨rfl, hB⟩
end Go.Proofs.Ytcmjgkmnbenniaa.Ext
