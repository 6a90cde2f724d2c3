/- DraftLiable's walk. Written by wip/liable.py. -/
import Derived.Test.YtcmjgkmnbenniaaOnce
namespace Go.Proofs.Ytcmjgkmnbenniaa.Ext
open Go.RowKit Go.Maps Go.WideMaps Go.Proofs.YtcmjgkmnbenniaaW.PrintWords Go.Proofs.YtcmjgkmnbenniaaW.PrintLast
/-- Whoever owes something of a bill: passed it on, drew it, or accepted it. -/
def Owes (d : Dr) (b : St) (z : ByteArray) : Prop := (∃ p ∈ b.passed, bl p = bl z) ∨ bl z = bl d.drawer ∨ (b.acc = true ∧ bl z = bl d.drawee)
def OwesAll (d : Dr) (b : St) (O : List ByteArray) : Prop := ∀ z ∈ O, Owes d b z
def inB (L : List ByteArray) (z : ByteArray) (j : Nat) : Bool := (L.take j).any fun y => y.toList == z.toList
theorem inB_zero (L : List ByteArray) (z : ByteArray) : inB L z 0 = false := rfl
theorem inB_succ {L : List ByteArray} {z y : ByteArray} {j : Nat} (hy : L[j]? = some y) : inB L z (j + 1) = (inB L z j || (y.toList == z.toList)) := by
  obtain ⟨hl, rfl⟩ := List.getElem?_eq_some_iff.1 hy
  unfold inB
  rw [List.take_succ_eq_append_getElem hl, List.any_append]
  simp
theorem inB_all {d : Dr} {b : St} {z : ByteArray} (hst : b.state ≠ 2) (ho : Owes d b z) : inB (liabB d b) z (liabB d b).length = !(z.toList == b.holder.toList) := by
  unfold inB
  rw [List.take_length, Bool.eq_iff_iff, List.any_eq_true, Bool.not_eq_true', beq_eq_false_iff_ne]
  have hm := liab_mem d b (bl z)
  rw [← liabB_map, List.mem_map] at hm
  constructor
  · rintro ⟨y, hy, e⟩
    rw [beq_iff_eq, ByteArray.toList_eq, ByteArray.toList_eq] at e
    have := (hm.1 ⟨y, hy, e⟩).2.1
    rw [ByteArray.toList_eq, ByteArray.toList_eq]
    exact this
  · intro h
    rw [ByteArray.toList_eq, ByteArray.toList_eq] at h
    obtain ⟨y, hy, e⟩ := hm.2 ⟨hst, h, ho⟩
    exact ⟨y, hy, by rw [beq_iff_eq, ByteArray.toList_eq, ByteArray.toList_eq]; exact e⟩
/-- What is owed stays owed, whatever is done. -/
theorem owes_do {call : Int} {x y : ByteArray} {day : Int} {d : Dr} {b b' : St} {z : ByteArray} (h : Deed1 call x y day d b b') (ho : Owes d b z) : Owes d b' z := by
  rcases h with ⟨_, _, _, e⟩ | ⟨_, _, _, _, _, e⟩ | ⟨_, _, e⟩ | ⟨_, _, e⟩ <;> rw [e] <;> rcases ho with ⟨p, hp, q⟩ | q | ⟨q1, q2⟩
  · exact .inl ⟨p, hp, q⟩
  · exact .inr (.inl q)
  · exact .inr (.inr ⟨rfl, q2⟩)
  · exact .inl ⟨p, List.mem_append_left _ hp, q⟩
  · exact .inr (.inl q)
  · exact .inr (.inr ⟨q1, q2⟩)
  · exact .inl ⟨p, hp, q⟩
  · exact .inr (.inl q)
  · exact .inr (.inr ⟨q1, q2⟩)
  · exact .inl ⟨p, hp, q⟩
  · exact .inr (.inl q)
  · exact .inr (.inr ⟨q1, q2⟩)
theorem owes_new {call : Int} {x y : ByteArray} {day : Int} {d : Dr} {b b' : St} (h : Deed1 call x y day d b b') (hc : call = 0 ∨ call = 1) : Owes d b' x := by
  rcases h with ⟨_, _, q, e⟩ | ⟨_, _, q, _, _, e⟩ | ⟨_, _, e⟩ | ⟨_, _, e⟩
  · rw [e]
    rw [ByteArray.toList_eq, ByteArray.toList_eq] at q
    exact .inr (.inr ⟨rfl, q⟩)
  · rw [e]
    exact .inl ⟨x, by simp, rfl⟩
  · omega
  · omega
theorem owesAll_do {call : Int} {x y : ByteArray} {day : Int} {d : Dr} {b b' : St} {O : List ByteArray} (h : Deed1 call x y day d b b') (ho : OwesAll d b O) : OwesAll d b' O := fun z hz => owes_do h (ho z hz)
theorem owesAll_snoc {call : Int} {x y : ByteArray} {day : Int} {d : Dr} {b b' : St} {O : List ByteArray} (h : Deed1 call x y day d b b') (hc : call = 0 ∨ call = 1) (ho : OwesAll d b O) : OwesAll d b' (O ++ [x]) := by
  intro z hz
  rcases List.mem_append.1 hz with h1 | h1
  · exact owes_do h (ho z h1)
  · rw [List.mem_singleton.1 h1]; exact owes_new h hc
theorem mem_rd {L : List ByteArray} {j : Nat} (h : j < L.length) : ∃ z, rdOf ByteArray.empty L (j : Int) = z ∧ L[j]? = some z := by
  refine ⟨_, rfl, ?_⟩
  unfold rdOf
  rw [Int.toNat_natCast, List.getD_eq_getElem?_getD, List.getElem?_eq_getElem h]
  rfl
/-- A bill below a bound stays, whatever is done above it. -/
theorem isbill_lower {w w' : World} {lo g m N : Nat} {d : Dr} {b : St} (h : IsBill w lo g m d b) (hb : Below N w w') (hg : g < N) (hm : m < N) : IsBill w' lo g m d b := by
  have hk : Kept w w' (fun k => N ≤ k) := ⟨hb.size, fun k _ hn => hb.block k (Nat.lt_of_not_le hn)⟩
  exact h.kept hk (by omega) (by omega)
set_option maxHeartbeats 16000000 in
set_option maxRecDepth 100000 in
theorem Owed_any (d : Dr) (l : List X.S46) (A : Option Addr) (c : Nat) (w : World) (hr : Kd.C X.k46 w A l.length l) (hc : l.length ≤ c) :
    Calls Try.prog 5 #[.agg d.arr, .slice A l.length c] w fun e w' => e = .returned (.bool true) ∧ Below w.heap.size w w' := by
  have hu25 := Try.underlying25
  unfold Dr.arr
  go_enter Try.func5, Try.ntmps5
  go_wp2_with fail
  refine (awake_any _).mono ?_
  rintro e w1 ⟨rfl, hB1'⟩
  have hB1 : Below w.heap.size w w1 := below_up (below_alloc (Below.refl _ _) _) hB1'
  have hbox : w1.heap[w.heap.size]? = some (.cells #[.string d.num, .string d.drawer, .string d.drawee, .string d.payee, .string d.cur, .int .i64 d.amt, .int .i64 d.kind, .int .i64 d.days, .int .i64 d.frm] 25 (0, 0)) := blk_below (blk_new w _) hB1'
  clear hB1'
  have q0 : w1.cell? ⟨w.heap.size, 0, none⟩ = some (.string d.num) := (blk_cell hbox 0).trans rfl
  have q1 : w1.cell? ⟨w.heap.size, 1, none⟩ = some (.string d.drawer) := (blk_cell hbox 1).trans rfl
  have q2 : w1.cell? ⟨w.heap.size, 2, none⟩ = some (.string d.drawee) := (blk_cell hbox 2).trans rfl
  have q3 : w1.cell? ⟨w.heap.size, 3, none⟩ = some (.string d.payee) := (blk_cell hbox 3).trans rfl
  have q4 : w1.cell? ⟨w.heap.size, 4, none⟩ = some (.string d.cur) := (blk_cell hbox 4).trans rfl
  have q5 : w1.cell? ⟨w.heap.size, 5, none⟩ = some (.int .i64 d.amt) := (blk_cell hbox 5).trans rfl
  have q6 : w1.cell? ⟨w.heap.size, 6, none⟩ = some (.int .i64 d.kind) := (blk_cell hbox 6).trans rfl
  have q7 : w1.cell? ⟨w.heap.size, 7, none⟩ = some (.int .i64 d.days) := (blk_cell hbox 7).trans rfl
  have q8 : w1.cell? ⟨w.heap.size, 8, none⟩ = some (.int .i64 d.frm) := (blk_cell hbox 8).trans rfl
  have hrl := long_case d
  obtain ⟨rl, hlf, hshort⟩ := hrl
  have cL := X.supercargolaw38_long.calls d.num d.drawer d.drawee d.payee d.cur d.amt d.kind d.days d.frm rl w1 hlf
  clear hlf
  cases rl with
  | true =>
    go_wp2_with fail
    refine cL.mono ?_
    rintro e w2 ⟨rfl, hB2⟩
    go_wp2_with fail
    go_ret
    exact ⟨rfl, below_up hB1 hB2⟩
  | false =>
    have hS := hshort rfl
    clear hshort
    obtain ⟨rh, hhf, hfine⟩ := heavy_case l 30
    cases rh with
    | true =>
      go_wp2_with fail
      refine cL.mono ?_
      rintro e w2 ⟨rfl, hB2⟩
      have hB02 := below_up hB1 hB2
      have cH := X.supercargolaw38_heavy.calls 2000 A c l 30 true w2 (Kd.C_below hr hB02) hc hhf
      go_wp2_with fail
      refine cH.mono ?_
      rintro e w' ⟨rfl, nd, rfl⟩
      go_wp2_with fail
      go_ret
      exact ⟨rfl, pw_below_drewN hB02 nd⟩
    | false =>
      have hF := hfine rfl
      clear hfine
      go_wp2_with fail
      refine cL.mono ?_
      rintro e w2 ⟨rfl, hB2⟩
      have hB02' := below_up hB1 hB2
      have cH := X.supercargolaw38_heavy.calls 2000 A c l 30 false w2 (Kd.C_below hr hB02') hc hhf
      clear hhf
      go_wp2_with fail
      refine cH.mono ?_
      rintro e w' ⟨rfl, nd, rfl⟩
      have hB02 : Below w.heap.size w (w2.drewN nd) := pw_below_drewN hB02' nd
      replace hbox := blk_below (blk_below hbox hB2) (pw_below_drewN (Below.refl w2.heap.size w2) nd)
      generalize w2.drewN nd = wh at hB02 hbox ⊢
      clear q0 q1 q2 q3 q4 q5 q6 q7 q8 hB2 hB02' cL cH
      have q0 : wh.cell? ⟨w.heap.size, 0, none⟩ = some (.string d.num) := (blk_cell hbox 0).trans rfl
      have q1 : wh.cell? ⟨w.heap.size, 1, none⟩ = some (.string d.drawer) := (blk_cell hbox 1).trans rfl
      have q2 : wh.cell? ⟨w.heap.size, 2, none⟩ = some (.string d.drawee) := (blk_cell hbox 2).trans rfl
      have q3 : wh.cell? ⟨w.heap.size, 3, none⟩ = some (.string d.payee) := (blk_cell hbox 3).trans rfl
      have q4 : wh.cell? ⟨w.heap.size, 4, none⟩ = some (.string d.cur) := (blk_cell hbox 4).trans rfl
      have q5 : wh.cell? ⟨w.heap.size, 5, none⟩ = some (.int .i64 d.amt) := (blk_cell hbox 5).trans rfl
      have q6 : wh.cell? ⟨w.heap.size, 6, none⟩ = some (.int .i64 d.kind) := (blk_cell hbox 6).trans rfl
      have q7 : wh.cell? ⟨w.heap.size, 7, none⟩ = some (.int .i64 d.days) := (blk_cell hbox 7).trans rfl
      have q8 : wh.cell? ⟨w.heap.size, 8, none⟩ = some (.int .i64 d.frm) := (blk_cell hbox 8).trans rfl
      have cM := X.supercargoref38_May.calls 120 d.num d.drawer d.drawee d.payee d.cur d.amt d.kind d.days d.frm (mayB d) wh (may38_f d hS 120 (by omega))
      obtain ⟨rm, hrm⟩ : ∃ rm, mayB d = rm := ⟨_, rfl⟩
      rw [hrm] at cM
      go_wp2_with fail
      refine cM.mono ?_
      rintro e w3 ⟨rfl, hB3⟩
      have hB03 := below_up hB02 hB3
      replace hbox := blk_below hbox hB3
      clear q0 q1 q2 q3 q4 q5 q6 q7 q8
      have q0 : w3.cell? ⟨w.heap.size, 0, none⟩ = some (.string d.num) := (blk_cell hbox 0).trans rfl
      have q1 : w3.cell? ⟨w.heap.size, 1, none⟩ = some (.string d.drawer) := (blk_cell hbox 1).trans rfl
      have q2 : w3.cell? ⟨w.heap.size, 2, none⟩ = some (.string d.drawee) := (blk_cell hbox 2).trans rfl
      have q3 : w3.cell? ⟨w.heap.size, 3, none⟩ = some (.string d.payee) := (blk_cell hbox 3).trans rfl
      have q4 : w3.cell? ⟨w.heap.size, 4, none⟩ = some (.string d.cur) := (blk_cell hbox 4).trans rfl
      have q5 : w3.cell? ⟨w.heap.size, 5, none⟩ = some (.int .i64 d.amt) := (blk_cell hbox 5).trans rfl
      have q6 : w3.cell? ⟨w.heap.size, 6, none⟩ = some (.int .i64 d.kind) := (blk_cell hbox 6).trans rfl
      have q7 : w3.cell? ⟨w.heap.size, 7, none⟩ = some (.int .i64 d.days) := (blk_cell hbox 7).trans rfl
      have q8 : w3.cell? ⟨w.heap.size, 8, none⟩ = some (.int .i64 d.frm) := (blk_cell hbox 8).trans rfl
      cases rm with
      | false =>
        go_wp2_with fail
        go_ret
        exact ⟨rfl, hB03⟩
      | true =>
        have cN := New_any 2 d w3 (by rw [mayd_f d hS 2 (by omega), hrm])
        unfold Dr.arr at cN
        have hmay := Lib.hid hrm
        clear hrm
        have hbox3 := hbox
        go_wp2_with fail
        refine cN.mono ?_
        rintro e w4 ⟨g, m, rfl, hb4, hB4⟩
        have hB04 := below_up hB03 hB4
        replace hbox := blk_below hbox hB4
        clear q0 q1 q2 q3 q4 q5 q6 q7 q8
        have hlow : w.heap.size < w3.heap.size := blk_lt hbox3
        have hlo4 : w3.heap.size ≤ w4.heap.size := hB4.size
        have hF30 := hF.len
        obtain ⟨i0, hi0, hz0, hz1, hz2⟩ := infoS
        have hltg4 := hb4.ltg
        have hltm4 := hb4.ltm
        have HO0 : Aside (OwesAll d (newSt d) [d.drawer]) := fun z hz => by rw [List.mem_singleton.1 hz]; exact .inr (.inl rfl)
        have hR0 := lit_row w4 [d.drawer] (by simp)
        have hW4 : Below w4.heap.size w4 (w4.alloc (.cells #[.string d.drawer] 9)) := below_alloc (Below.refl _ _) _
        have q1 : w4.cell? ⟨w.heap.size, 1, none⟩ = some (.string d.drawer) := (blk_cell hbox 1).trans rfl
        go_wp2_with fail
        go_loopw [7, 8] (fun v7 v8 wr => ∃ (i : Nat) (b : St) (O : List ByteArray), i ≤ l.length ∧ v8 = .int .i64 i ∧ Aside (OwesAll d b O) ∧ O.length ≤ i + 1 ∧ b.passed.length ≤ i ∧ b.holder.size ≤ 100 ∧ IsBill wr w3.heap.size g m d b ∧ Kd.R Kd.string 9 wr w4.heap.size (fun k => w4.heap.size ≤ k) v7 O ∧ Below w.heap.size w wr ∧ w4.heap.size ≤ wr.heap.size) (fun _ v8 _ => l.length - (intOf v8).toNat)
        case atStart => exact ⟨0, newSt d, [d.drawer], Nat.zero_le _, rfl, HO0, Nat.le_refl _, Nat.zero_le _, hS.h4, hb4.below hW4, hR0, below_up hB04 hW4, hW4.size⟩
        case round =>
          obtain ⟨i, b, O, hi, rfl, HO, hOl, hpl, hbh, hb, hR, hB, hN⟩ := hrel
          by_cases hlt : i < l.length
          · obtain ⟨ad, eA, e0, e1, e2, e3⟩ := X.at_T46 hr (i : Int) (by omega) (by omega)
            subst eA
            obtain ⟨hx, hy⟩ := hF.short i hlt
            generalize X.rd_T46 l (i : Int) = z at e0 e1 e2 e3 hx hy
            obtain ⟨call, x, y, day⟩ := z
            simp only [Int.toNat_natCast] at e0 e1 e2 e3 hx hy
            have a0 := keepw hB e0
            have a1 := keepw hB e1
            have a2 := keepw hB e2
            have a3 := keepw hB e3
            have hltg := hb.ltg
            have hlog := hb.log
            have hll : wr.heap.size ≥ w3.heap.size := by omega
            have hsm := small_of hS hbh (by omega)
            have cD := do_any call x y day hx hy wr w3.heap.size g m d b hb hsm (by omega) hll
            have hsm' : Small d (doSt call x y day d b) := do_small hS hy hbh hpl (by omega)
            have hpl' := do_len call x y day d b
            have hbh' := do_holder call x y day d b hy hbh
            have hz := do_zero (call := call) (x := x) (y := y) (day := day) (d := d) (b := b)
            have hbad := do_bad (call := call) (x := x) (y := y) (day := day) (d := d) (b := b)
            obtain ⟨cc, hcc⟩ : ∃ cc, doCode call x y day d b = cc := ⟨_, rfl⟩
            obtain ⟨b', hbe⟩ : ∃ b', doSt call x y day d b = b' := ⟨_, rfl⟩
            rw [hcc, hbe] at cD
            rw [hbe] at hsm' hpl' hbh'
            rw [hcc, hbe] at hz hbad
            have hpl2 : b'.passed.length ≤ i + 1 := by omega
            clear hpl' hcc hbe hltg hlog
            by_cases hc0 : cc = 0
            · subst hc0
              replace hz := hz rfl
              clear hbad
              by_cases h0 : call = 0
              · have HO2 : Aside (OwesAll d b' (O ++ [x])) := owesAll_snoc hz (.inl h0) HO.out
                subst h0
                clear hz HO
                go_wp2_with fail
                refine cD.mono ?_
                rintro e wd ⟨rfl, hb', hBD, hKD⟩
                have hBw : Below w.heap.size w wd := hB.trans (hBD.mono (Nat.le_of_lt hlow))
                have hNd : w4.heap.size ≤ wd.heap.size := Nat.le_trans hN hKD.1
                have hRd := Kd.R_kept hR hKD (fun k hk e => by rcases e with rfl | rfl <;> omega)
                have d0 := keepw hBw e0
                have d1 := keepw hBw e1
                have hown : wd.ownsRow w4.heap.size 9 1 _ O.length (O.map Value.string) := Kd.own_of_R hRd
                go_wp2_with (at_builtin; refine wpList_append_own_at _ rfl _ _ 26 rfl w4.heap.size 9 i0 (.string ⟨#[]⟩) 1 16 Try.underlying26 hi0 hz0 hz1 hz2 rfl (by decide) _ _ _ rfl (hown.alloc _) ⟨wd.heap.size, 0, none⟩ 1 1 [.string x] rfl rfl (World.news_of_block (blk_new wd _)) (by simp [Value.oneCell']) (by unfold maxLen; omega) (by omega) (Nat.le_trans hNd (by simp)) ?_)
                intro v' wq hown' hgr' hnil' hloc'
                have hB3b : Below w4.heap.size wd wq := (Below.refl _ wd |>.alloc hNd _).grown hgr' (Nat.le_trans hNd (by simp)) (fun k hk => own_base hown k hk)
                have hbq : IsBill wq w3.heap.size g m d b' := isbill_lower hb' hB3b (by omega) (by omega)
                have hBq : Below w.heap.size w wq := hBw.trans (hB3b.mono (by omega))
                have hNq : w4.heap.size ≤ wq.heap.size := Nat.le_trans hNd hB3b.size
                have hRq : Kd.R Kd.string 9 wq w4.heap.size (fun k => w4.heap.size ≤ k) v' (O ++ [x]) := Kd.R_of_own (by simpa [encs] using hown') (fun k hk => own_base hown' k hk)
                obtain ⟨O', hO'⟩ : ∃ O', O' = O ++ [x] := ⟨_, rfl⟩
                have hOl' : O'.length ≤ i + 2 := by rw [hO']; simp; omega
                have HO' : Aside (OwesAll d b' O') := by rw [hO']; exact HO2
                rw [← hO'] at hRq
                clear hown hown' hgr' hnil' hloc' hO' HO2 hRd hB3b
                have cLi := Liable_any wq w3.heap.size g m d b' hbq hsm'
                go_wp2_with fail
                refine cLi.mono ?_
                rintro e w8 ⟨v, rfl, hrow, hB8⟩
                obtain ⟨A3, c3, rfl, hC3, hc3⟩ := liab_slice hrow
                clear hrow
                have hb8 := hbq.below hB8
                have hB8w := below_up hBq hB8
                have hR8 := Kd.R_below hRq hB8
                obtain ⟨A7, c7, rfl⟩ := Kd.R_slice hR8
                have hC7 := (Kd.R_reads' hR8).2.2
                have hc7 := (Kd.R_reads' hR8).2.1
                have hLl : (liabB d b').length ≤ 40 := by have h1 := liab_length d b'; have h2 : (liabB d b').length = (liabL d b').length := by simp [liabB]
                                                          omega
                have hN8 : w4.heap.size ≤ w8.heap.size := Nat.le_trans hNq hB8.size
                clear hRq
                go_wp2_with fail
                go_loopw [10] (fun v10 w2 => ∃ k : Nat, k ≤ O'.length ∧ v10 = .int .i64 k ∧ Below w8.heap.size w8 w2) (fun v10 _ => O'.length - (intOf v10).toNat)
                case atStart => exact ⟨0, Nat.zero_le _, rfl, Below.refl _ _⟩
                case round =>
                  obtain ⟨k, hk, rfl, hB2⟩ := hrel
                  generalize wr = wi at hB2 ⊢
                  by_cases hlk : k < O'.length
                  · obtain ⟨ad7, eA7, hcz0⟩ := Kd.at_string hC7 (k : Int) (by omega) (by omega)
                    obtain ⟨z, hz, hzk⟩ := mem_rd hlk
                    rw [hz, Int.toNat_natCast] at hcz0
                    clear hz
                    subst eA7
                    have hcz := keepc hB2 hcz0
                    go_wp2_with fail
                    go_loopw [11, 12] (fun v11 v12 w2 => ∃ j : Nat, j ≤ (liabB d b').length ∧ v12 = .int .i64 j ∧ v11 = .bool (inB (liabB d b') z j) ∧ Below w8.heap.size w8 w2) (fun _ v12 _ => (liabB d b').length - (intOf v12).toNat)
                    case atStart => exact ⟨0, Nat.zero_le _, rfl, rfl, hB2⟩
                    case round =>
                      obtain ⟨j, hj, rfl, rfl, hB3⟩ := hrel
                      by_cases hlj : j < (liabB d b').length
                      · obtain ⟨ad2, eA2, hcy0⟩ := Kd.at_string hC3 (j : Int) (by omega) (by omega)
                        obtain ⟨y2, hy0, hyj⟩ := mem_rd hlj
                        rw [hy0, Int.toNat_natCast] at hcy0
                        clear hy0
                        subst eA2
                        have hcy := keepc hB3 hcy0
                        have hcz3 := keepc hB3 hcz0
                        have hnx := Lib.hid (inB_succ (z := z) hyj)
                        obtain ⟨b1, hb1⟩ : ∃ b1, inB (liabB d b') z j = b1 := ⟨_, rfl⟩
                        rw [hb1]
                        replace hnx : Hid (inB (liabB d b') z (j + 1) = (b1 || (y2.toList == z.toList))) := by show _ = _; rw [hnx.out, hb1]
                        clear hb1
                        cases b1 with
                        | true =>
                          go_wp2_with fail
                          go_quiet (fail)
                          go_wp2_with fail
                          go_roundw
                          case measure => simp [intOf]; omega
                          case rel => exact ⟨j + 1, by omega, by go_num, by rw [hnx.out]; rfl, pw_below_drewN hB3 _⟩
                        | false =>
                          go_wp2_with fail
                          go_quiet (fail)
                          go_wp2_with fail
                          go_roundw
                          case measure => simp [intOf]; omega
                          case rel => exact ⟨j + 1, by omega, by go_num, by rw [hnx.out]; rfl, pw_below_drewN hB3 _⟩
                      · obtain rfl : j = (liabB d b').length := by omega
                        generalize wr = wj at hB3 ⊢
                        have hcz3 := keepc hB3 hcz0
                        have hb3 := hb8.below hB3
                        have hH := fun n => (Holder_any (wj.drewN n) w3.heap.size g m d b' (hb3.below (pw_below_drewN (Below.refl _ _) n))).mono fun _ _ q => (⟨q.1, q.2.symm⟩ : _ ∧ _ = wj.drewN n)
                        have hT := fun n => (State_any (wj.drewN n) w3.heap.size g m d b' (hb3.below (pw_below_drewN (Below.refl _ _) n))).mono fun _ _ q => (⟨q.1, q.2.symm⟩ : _ ∧ _ = wj.drewN n)
                        by_cases hs2 : b'.state = 2
                        · rw [hs2] at hT
                          clear hs2
                          go_wp2_with fail
                          go_quiet ((first | (go_at_call 16; exact Calls.quiet_of_same (hH _)) | (go_at_call 20; exact Calls.quiet_of_same (hT _))))
                          go_wp2_with fail
                          go_roundw
                          case measure => simp [intOf]; omega
                          case rel => exact ⟨k + 1, by omega, by go_num, pw_below_drewN hB3 _⟩
                        · have hin := inB_all hs2 (HO'.out z (List.mem_of_getElem? hzk))
                          have hsb : (b'.state == 2) = false := by simp [hs2]
                          have hsn : (b'.state != 2) = true := by simp [hs2]
                          rw [hin]
                          clear hs2 hin
                          obtain ⟨q, hq⟩ : ∃ q, (z.toList == b'.holder.toList) = q := ⟨_, rfl⟩
                          rw [hq]
                          cases q
                          all_goals
                            go_wp2_with fail
                            go_quiet ((first | (go_at_call 16; exact Calls.quiet_of_same (hH _)) | (go_at_call 20; exact Calls.quiet_of_same (hT _))))
                            go_wp2_with fail
                            go_roundw
                            case measure => simp [intOf]; omega
                            case rel => exact ⟨k + 1, by omega, by go_num, pw_below_drewN hB3 _⟩
                  · obtain rfl : k = O'.length := by omega
                    go_wp2_with fail
                    go_roundw
                    case measure => simp [intOf]; omega
                    case rel => exact ⟨i + 1, b', O', by omega, by go_num, HO', hOl', by omega, hbh', hb8.below hB2, Kd.R_below hR8 hB2, hB8w.trans (hB2.mono hB8w.size), Nat.le_trans hN8 hB2.size⟩
              by_cases h1 : call = 1
              · have HO2 : Aside (OwesAll d b' (O ++ [x])) := owesAll_snoc hz (.inr h1) HO.out
                subst h1
                clear hz HO h0
                go_wp2_with fail
                refine cD.mono ?_
                rintro e wd ⟨rfl, hb', hBD, hKD⟩
                have hBw : Below w.heap.size w wd := hB.trans (hBD.mono (Nat.le_of_lt hlow))
                have hNd : w4.heap.size ≤ wd.heap.size := Nat.le_trans hN hKD.1
                have hRd := Kd.R_kept hR hKD (fun k hk e => by rcases e with rfl | rfl <;> omega)
                have d0 := keepw hBw e0
                have d1 := keepw hBw e1
                have hown : wd.ownsRow w4.heap.size 9 1 _ O.length (O.map Value.string) := Kd.own_of_R hRd
                go_wp2_with (at_builtin; refine wpList_append_own_at _ rfl _ _ 26 rfl w4.heap.size 9 i0 (.string ⟨#[]⟩) 1 16 Try.underlying26 hi0 hz0 hz1 hz2 rfl (by decide) _ _ _ rfl (hown.alloc _) ⟨wd.heap.size, 0, none⟩ 1 1 [.string x] rfl rfl (World.news_of_block (blk_new wd _)) (by simp [Value.oneCell']) (by unfold maxLen; omega) (by omega) (Nat.le_trans hNd (by simp)) ?_)
                intro v' wq hown' hgr' hnil' hloc'
                have hB3b : Below w4.heap.size wd wq := (Below.refl _ wd |>.alloc hNd _).grown hgr' (Nat.le_trans hNd (by simp)) (fun k hk => own_base hown k hk)
                have hbq : IsBill wq w3.heap.size g m d b' := isbill_lower hb' hB3b (by omega) (by omega)
                have hBq : Below w.heap.size w wq := hBw.trans (hB3b.mono (by omega))
                have hNq : w4.heap.size ≤ wq.heap.size := Nat.le_trans hNd hB3b.size
                have hRq : Kd.R Kd.string 9 wq w4.heap.size (fun k => w4.heap.size ≤ k) v' (O ++ [x]) := Kd.R_of_own (by simpa [encs] using hown') (fun k hk => own_base hown' k hk)
                obtain ⟨O', hO'⟩ : ∃ O', O' = O ++ [x] := ⟨_, rfl⟩
                have hOl' : O'.length ≤ i + 2 := by rw [hO']; simp; omega
                have HO' : Aside (OwesAll d b' O') := by rw [hO']; exact HO2
                rw [← hO'] at hRq
                clear hown hown' hgr' hnil' hloc' hO' HO2 hRd hB3b
                have cLi := Liable_any wq w3.heap.size g m d b' hbq hsm'
                go_wp2_with fail
                refine cLi.mono ?_
                rintro e w8 ⟨v, rfl, hrow, hB8⟩
                obtain ⟨A3, c3, rfl, hC3, hc3⟩ := liab_slice hrow
                clear hrow
                have hb8 := hbq.below hB8
                have hB8w := below_up hBq hB8
                have hR8 := Kd.R_below hRq hB8
                obtain ⟨A7, c7, rfl⟩ := Kd.R_slice hR8
                have hC7 := (Kd.R_reads' hR8).2.2
                have hc7 := (Kd.R_reads' hR8).2.1
                have hLl : (liabB d b').length ≤ 40 := by have h1 := liab_length d b'; have h2 : (liabB d b').length = (liabL d b').length := by simp [liabB]
                                                          omega
                have hN8 : w4.heap.size ≤ w8.heap.size := Nat.le_trans hNq hB8.size
                clear hRq
                go_wp2_with fail
                go_loopw [10] (fun v10 w2 => ∃ k : Nat, k ≤ O'.length ∧ v10 = .int .i64 k ∧ Below w8.heap.size w8 w2) (fun v10 _ => O'.length - (intOf v10).toNat)
                case atStart => exact ⟨0, Nat.zero_le _, rfl, Below.refl _ _⟩
                case round =>
                  obtain ⟨k, hk, rfl, hB2⟩ := hrel
                  generalize wr = wi at hB2 ⊢
                  by_cases hlk : k < O'.length
                  · obtain ⟨ad7, eA7, hcz0⟩ := Kd.at_string hC7 (k : Int) (by omega) (by omega)
                    obtain ⟨z, hz, hzk⟩ := mem_rd hlk
                    rw [hz, Int.toNat_natCast] at hcz0
                    clear hz
                    subst eA7
                    have hcz := keepc hB2 hcz0
                    go_wp2_with fail
                    go_loopw [11, 12] (fun v11 v12 w2 => ∃ j : Nat, j ≤ (liabB d b').length ∧ v12 = .int .i64 j ∧ v11 = .bool (inB (liabB d b') z j) ∧ Below w8.heap.size w8 w2) (fun _ v12 _ => (liabB d b').length - (intOf v12).toNat)
                    case atStart => exact ⟨0, Nat.zero_le _, rfl, rfl, hB2⟩
                    case round =>
                      obtain ⟨j, hj, rfl, rfl, hB3⟩ := hrel
                      by_cases hlj : j < (liabB d b').length
                      · obtain ⟨ad2, eA2, hcy0⟩ := Kd.at_string hC3 (j : Int) (by omega) (by omega)
                        obtain ⟨y2, hy0, hyj⟩ := mem_rd hlj
                        rw [hy0, Int.toNat_natCast] at hcy0
                        clear hy0
                        subst eA2
                        have hcy := keepc hB3 hcy0
                        have hcz3 := keepc hB3 hcz0
                        have hnx := Lib.hid (inB_succ (z := z) hyj)
                        obtain ⟨b1, hb1⟩ : ∃ b1, inB (liabB d b') z j = b1 := ⟨_, rfl⟩
                        rw [hb1]
                        replace hnx : Hid (inB (liabB d b') z (j + 1) = (b1 || (y2.toList == z.toList))) := by show _ = _; rw [hnx.out, hb1]
                        clear hb1
                        cases b1 with
                        | true =>
                          go_wp2_with fail
                          go_quiet (fail)
                          go_wp2_with fail
                          go_roundw
                          case measure => simp [intOf]; omega
                          case rel => exact ⟨j + 1, by omega, by go_num, by rw [hnx.out]; rfl, pw_below_drewN hB3 _⟩
                        | false =>
                          go_wp2_with fail
                          go_quiet (fail)
                          go_wp2_with fail
                          go_roundw
                          case measure => simp [intOf]; omega
                          case rel => exact ⟨j + 1, by omega, by go_num, by rw [hnx.out]; rfl, pw_below_drewN hB3 _⟩
                      · obtain rfl : j = (liabB d b').length := by omega
                        generalize wr = wj at hB3 ⊢
                        have hcz3 := keepc hB3 hcz0
                        have hb3 := hb8.below hB3
                        have hH := fun n => (Holder_any (wj.drewN n) w3.heap.size g m d b' (hb3.below (pw_below_drewN (Below.refl _ _) n))).mono fun _ _ q => (⟨q.1, q.2.symm⟩ : _ ∧ _ = wj.drewN n)
                        have hT := fun n => (State_any (wj.drewN n) w3.heap.size g m d b' (hb3.below (pw_below_drewN (Below.refl _ _) n))).mono fun _ _ q => (⟨q.1, q.2.symm⟩ : _ ∧ _ = wj.drewN n)
                        by_cases hs2 : b'.state = 2
                        · rw [hs2] at hT
                          clear hs2
                          go_wp2_with fail
                          go_quiet ((first | (go_at_call 16; exact Calls.quiet_of_same (hH _)) | (go_at_call 20; exact Calls.quiet_of_same (hT _))))
                          go_wp2_with fail
                          go_roundw
                          case measure => simp [intOf]; omega
                          case rel => exact ⟨k + 1, by omega, by go_num, pw_below_drewN hB3 _⟩
                        · have hin := inB_all hs2 (HO'.out z (List.mem_of_getElem? hzk))
                          have hsb : (b'.state == 2) = false := by simp [hs2]
                          have hsn : (b'.state != 2) = true := by simp [hs2]
                          rw [hin]
                          clear hs2 hin
                          obtain ⟨q, hq⟩ : ∃ q, (z.toList == b'.holder.toList) = q := ⟨_, rfl⟩
                          rw [hq]
                          cases q
                          all_goals
                            go_wp2_with fail
                            go_quiet ((first | (go_at_call 16; exact Calls.quiet_of_same (hH _)) | (go_at_call 20; exact Calls.quiet_of_same (hT _))))
                            go_wp2_with fail
                            go_roundw
                            case measure => simp [intOf]; omega
                            case rel => exact ⟨k + 1, by omega, by go_num, pw_below_drewN hB3 _⟩
                  · obtain rfl : k = O'.length := by omega
                    go_wp2_with fail
                    go_roundw
                    case measure => simp [intOf]; omega
                    case rel => exact ⟨i + 1, b', O', by omega, by go_num, HO', hOl', by omega, hbh', hb8.below hB2, Kd.R_below hR8 hB2, hB8w.trans (hB2.mono hB8w.size), Nat.le_trans hN8 hB2.size⟩
              · have HO2 : Aside (OwesAll d b' O) := owesAll_do hz HO.out
                have h0b : (call == 0) = false := by simp [h0]
                have h1b : (call == 1) = false := by simp [h1]
                clear hz HO h0 h1
                go_wp2_with fail
                refine cD.mono ?_
                rintro e wd ⟨rfl, hb', hBD, hKD⟩
                have hBw : Below w.heap.size w wd := hB.trans (hBD.mono (Nat.le_of_lt hlow))
                have hNd : w4.heap.size ≤ wd.heap.size := Nat.le_trans hN hKD.1
                have hRd := Kd.R_kept hR hKD (fun k hk e => by rcases e with rfl | rfl <;> omega)
                obtain ⟨wq, hwq⟩ : ∃ wq, wq = wd := ⟨_, rfl⟩
                obtain ⟨O', hO'⟩ : ∃ O', O' = O := ⟨_, rfl⟩
                rw [← hwq] at hb' hBw hNd hRd ⊢
                rw [← hO'] at hRd HO2 hOl
                have hOl' : O'.length ≤ i + 2 := by omega
                have HO' := HO2
                have hbq := hb'
                have hBq := hBw
                have hNq := hNd
                have hRq := hRd
                clear hwq hO' hb' hBw hNd hRd HO2
                have d0 := keepw hBq e0
                have cLi := Liable_any wq w3.heap.size g m d b' hbq hsm'
                go_wp2_with fail
                refine cLi.mono ?_
                rintro e w8 ⟨v, rfl, hrow, hB8⟩
                obtain ⟨A3, c3, rfl, hC3, hc3⟩ := liab_slice hrow
                clear hrow
                have hb8 := hbq.below hB8
                have hB8w := below_up hBq hB8
                have hR8 := Kd.R_below hRq hB8
                obtain ⟨A7, c7, rfl⟩ := Kd.R_slice hR8
                have hC7 := (Kd.R_reads' hR8).2.2
                have hc7 := (Kd.R_reads' hR8).2.1
                have hLl : (liabB d b').length ≤ 40 := by have h1 := liab_length d b'; have h2 : (liabB d b').length = (liabL d b').length := by simp [liabB]
                                                          omega
                have hN8 : w4.heap.size ≤ w8.heap.size := Nat.le_trans hNq hB8.size
                clear hRq
                go_wp2_with fail
                go_loopw [10] (fun v10 w2 => ∃ k : Nat, k ≤ O'.length ∧ v10 = .int .i64 k ∧ Below w8.heap.size w8 w2) (fun v10 _ => O'.length - (intOf v10).toNat)
                case atStart => exact ⟨0, Nat.zero_le _, rfl, Below.refl _ _⟩
                case round =>
                  obtain ⟨k, hk, rfl, hB2⟩ := hrel
                  generalize wr = wi at hB2 ⊢
                  by_cases hlk : k < O'.length
                  · obtain ⟨ad7, eA7, hcz0⟩ := Kd.at_string hC7 (k : Int) (by omega) (by omega)
                    obtain ⟨z, hz, hzk⟩ := mem_rd hlk
                    rw [hz, Int.toNat_natCast] at hcz0
                    clear hz
                    subst eA7
                    have hcz := keepc hB2 hcz0
                    go_wp2_with fail
                    go_loopw [11, 12] (fun v11 v12 w2 => ∃ j : Nat, j ≤ (liabB d b').length ∧ v12 = .int .i64 j ∧ v11 = .bool (inB (liabB d b') z j) ∧ Below w8.heap.size w8 w2) (fun _ v12 _ => (liabB d b').length - (intOf v12).toNat)
                    case atStart => exact ⟨0, Nat.zero_le _, rfl, rfl, hB2⟩
                    case round =>
                      obtain ⟨j, hj, rfl, rfl, hB3⟩ := hrel
                      by_cases hlj : j < (liabB d b').length
                      · obtain ⟨ad2, eA2, hcy0⟩ := Kd.at_string hC3 (j : Int) (by omega) (by omega)
                        obtain ⟨y2, hy0, hyj⟩ := mem_rd hlj
                        rw [hy0, Int.toNat_natCast] at hcy0
                        clear hy0
                        subst eA2
                        have hcy := keepc hB3 hcy0
                        have hcz3 := keepc hB3 hcz0
                        have hnx := Lib.hid (inB_succ (z := z) hyj)
                        obtain ⟨b1, hb1⟩ : ∃ b1, inB (liabB d b') z j = b1 := ⟨_, rfl⟩
                        rw [hb1]
                        replace hnx : Hid (inB (liabB d b') z (j + 1) = (b1 || (y2.toList == z.toList))) := by show _ = _; rw [hnx.out, hb1]
                        clear hb1
                        cases b1 with
                        | true =>
                          go_wp2_with fail
                          go_quiet (fail)
                          go_wp2_with fail
                          go_roundw
                          case measure => simp [intOf]; omega
                          case rel => exact ⟨j + 1, by omega, by go_num, by rw [hnx.out]; rfl, pw_below_drewN hB3 _⟩
                        | false =>
                          go_wp2_with fail
                          go_quiet (fail)
                          go_wp2_with fail
                          go_roundw
                          case measure => simp [intOf]; omega
                          case rel => exact ⟨j + 1, by omega, by go_num, by rw [hnx.out]; rfl, pw_below_drewN hB3 _⟩
                      · obtain rfl : j = (liabB d b').length := by omega
                        generalize wr = wj at hB3 ⊢
                        have hcz3 := keepc hB3 hcz0
                        have hb3 := hb8.below hB3
                        have hH := fun n => (Holder_any (wj.drewN n) w3.heap.size g m d b' (hb3.below (pw_below_drewN (Below.refl _ _) n))).mono fun _ _ q => (⟨q.1, q.2.symm⟩ : _ ∧ _ = wj.drewN n)
                        have hT := fun n => (State_any (wj.drewN n) w3.heap.size g m d b' (hb3.below (pw_below_drewN (Below.refl _ _) n))).mono fun _ _ q => (⟨q.1, q.2.symm⟩ : _ ∧ _ = wj.drewN n)
                        by_cases hs2 : b'.state = 2
                        · rw [hs2] at hT
                          clear hs2
                          go_wp2_with fail
                          go_quiet ((first | (go_at_call 16; exact Calls.quiet_of_same (hH _)) | (go_at_call 20; exact Calls.quiet_of_same (hT _))))
                          go_wp2_with fail
                          go_roundw
                          case measure => simp [intOf]; omega
                          case rel => exact ⟨k + 1, by omega, by go_num, pw_below_drewN hB3 _⟩
                        · have hin := inB_all hs2 (HO'.out z (List.mem_of_getElem? hzk))
                          have hsb : (b'.state == 2) = false := by simp [hs2]
                          have hsn : (b'.state != 2) = true := by simp [hs2]
                          rw [hin]
                          clear hs2 hin
                          obtain ⟨q, hq⟩ : ∃ q, (z.toList == b'.holder.toList) = q := ⟨_, rfl⟩
                          rw [hq]
                          cases q
                          all_goals
                            go_wp2_with fail
                            go_quiet ((first | (go_at_call 16; exact Calls.quiet_of_same (hH _)) | (go_at_call 20; exact Calls.quiet_of_same (hT _))))
                            go_wp2_with fail
                            go_roundw
                            case measure => simp [intOf]; omega
                            case rel => exact ⟨k + 1, by omega, by go_num, pw_below_drewN hB3 _⟩
                  · obtain rfl : k = O'.length := by omega
                    go_wp2_with fail
                    go_roundw
                    case measure => simp [intOf]; omega
                    case rel => exact ⟨i + 1, b', O', by omega, by go_num, HO', hOl', by omega, hbh', hb8.below hB2, Kd.R_below hR8 hB2, hB8w.trans (hB2.mono hB8w.size), Nat.le_trans hN8 hB2.size⟩
            · have hcb : (cc == 0) = false := by simp [hc0]
              have HO2 : Aside (OwesAll d b' O) := by rw [hbad hc0]; exact HO.out
              clear hz hbad HO hc0
              go_wp2_with fail
              refine cD.mono ?_
              rintro e wd ⟨rfl, hb', hBD, hKD⟩
              have hBw : Below w.heap.size w wd := hB.trans (hBD.mono (Nat.le_of_lt hlow))
              have hNd : w4.heap.size ≤ wd.heap.size := Nat.le_trans hN hKD.1
              have hRd := Kd.R_kept hR hKD (fun k hk e => by rcases e with rfl | rfl <;> omega)
              obtain ⟨wq, hwq⟩ : ∃ wq, wq = wd := ⟨_, rfl⟩
              obtain ⟨O', hO'⟩ : ∃ O', O' = O := ⟨_, rfl⟩
              rw [← hwq] at hb' hBw hNd hRd ⊢
              rw [← hO'] at hRd HO2 hOl
              have hOl' : O'.length ≤ i + 2 := by omega
              have HO' := HO2
              have hbq := hb'
              have hBq := hBw
              have hNq := hNd
              have hRq := hRd
              clear hwq hO' hb' hBw hNd hRd HO2
              have cLi := Liable_any wq w3.heap.size g m d b' hbq hsm'
              go_wp2_with fail
              refine cLi.mono ?_
              rintro e w8 ⟨v, rfl, hrow, hB8⟩
              obtain ⟨A3, c3, rfl, hC3, hc3⟩ := liab_slice hrow
              clear hrow
              have hb8 := hbq.below hB8
              have hB8w := below_up hBq hB8
              have hR8 := Kd.R_below hRq hB8
              obtain ⟨A7, c7, rfl⟩ := Kd.R_slice hR8
              have hC7 := (Kd.R_reads' hR8).2.2
              have hc7 := (Kd.R_reads' hR8).2.1
              have hLl : (liabB d b').length ≤ 40 := by have h1 := liab_length d b'; have h2 : (liabB d b').length = (liabL d b').length := by simp [liabB]
                                                        omega
              have hN8 : w4.heap.size ≤ w8.heap.size := Nat.le_trans hNq hB8.size
              clear hRq
              go_wp2_with fail
              go_loopw [10] (fun v10 w2 => ∃ k : Nat, k ≤ O'.length ∧ v10 = .int .i64 k ∧ Below w8.heap.size w8 w2) (fun v10 _ => O'.length - (intOf v10).toNat)
              case atStart => exact ⟨0, Nat.zero_le _, rfl, Below.refl _ _⟩
              case round =>
                obtain ⟨k, hk, rfl, hB2⟩ := hrel
                generalize wr = wi at hB2 ⊢
                by_cases hlk : k < O'.length
                · obtain ⟨ad7, eA7, hcz0⟩ := Kd.at_string hC7 (k : Int) (by omega) (by omega)
                  obtain ⟨z, hz, hzk⟩ := mem_rd hlk
                  rw [hz, Int.toNat_natCast] at hcz0
                  clear hz
                  subst eA7
                  have hcz := keepc hB2 hcz0
                  go_wp2_with fail
                  go_loopw [11, 12] (fun v11 v12 w2 => ∃ j : Nat, j ≤ (liabB d b').length ∧ v12 = .int .i64 j ∧ v11 = .bool (inB (liabB d b') z j) ∧ Below w8.heap.size w8 w2) (fun _ v12 _ => (liabB d b').length - (intOf v12).toNat)
                  case atStart => exact ⟨0, Nat.zero_le _, rfl, rfl, hB2⟩
                  case round =>
                    obtain ⟨j, hj, rfl, rfl, hB3⟩ := hrel
                    by_cases hlj : j < (liabB d b').length
                    · obtain ⟨ad2, eA2, hcy0⟩ := Kd.at_string hC3 (j : Int) (by omega) (by omega)
                      obtain ⟨y2, hy0, hyj⟩ := mem_rd hlj
                      rw [hy0, Int.toNat_natCast] at hcy0
                      clear hy0
                      subst eA2
                      have hcy := keepc hB3 hcy0
                      have hcz3 := keepc hB3 hcz0
                      have hnx := Lib.hid (inB_succ (z := z) hyj)
                      obtain ⟨b1, hb1⟩ : ∃ b1, inB (liabB d b') z j = b1 := ⟨_, rfl⟩
                      rw [hb1]
                      replace hnx : Hid (inB (liabB d b') z (j + 1) = (b1 || (y2.toList == z.toList))) := by show _ = _; rw [hnx.out, hb1]
                      clear hb1
                      cases b1 with
                      | true =>
                        go_wp2_with fail
                        go_quiet (fail)
                        go_wp2_with fail
                        go_roundw
                        case measure => simp [intOf]; omega
                        case rel => exact ⟨j + 1, by omega, by go_num, by rw [hnx.out]; rfl, pw_below_drewN hB3 _⟩
                      | false =>
                        go_wp2_with fail
                        go_quiet (fail)
                        go_wp2_with fail
                        go_roundw
                        case measure => simp [intOf]; omega
                        case rel => exact ⟨j + 1, by omega, by go_num, by rw [hnx.out]; rfl, pw_below_drewN hB3 _⟩
                    · obtain rfl : j = (liabB d b').length := by omega
                      generalize wr = wj at hB3 ⊢
                      have hcz3 := keepc hB3 hcz0
                      have hb3 := hb8.below hB3
                      have hH := fun n => (Holder_any (wj.drewN n) w3.heap.size g m d b' (hb3.below (pw_below_drewN (Below.refl _ _) n))).mono fun _ _ q => (⟨q.1, q.2.symm⟩ : _ ∧ _ = wj.drewN n)
                      have hT := fun n => (State_any (wj.drewN n) w3.heap.size g m d b' (hb3.below (pw_below_drewN (Below.refl _ _) n))).mono fun _ _ q => (⟨q.1, q.2.symm⟩ : _ ∧ _ = wj.drewN n)
                      by_cases hs2 : b'.state = 2
                      · rw [hs2] at hT
                        clear hs2
                        go_wp2_with fail
                        go_quiet ((first | (go_at_call 16; exact Calls.quiet_of_same (hH _)) | (go_at_call 20; exact Calls.quiet_of_same (hT _))))
                        go_wp2_with fail
                        go_roundw
                        case measure => simp [intOf]; omega
                        case rel => exact ⟨k + 1, by omega, by go_num, pw_below_drewN hB3 _⟩
                      · have hin := inB_all hs2 (HO'.out z (List.mem_of_getElem? hzk))
                        have hsb : (b'.state == 2) = false := by simp [hs2]
                        have hsn : (b'.state != 2) = true := by simp [hs2]
                        rw [hin]
                        clear hs2 hin
                        obtain ⟨q, hq⟩ : ∃ q, (z.toList == b'.holder.toList) = q := ⟨_, rfl⟩
                        rw [hq]
                        cases q
                        all_goals
                          go_wp2_with fail
                          go_quiet ((first | (go_at_call 16; exact Calls.quiet_of_same (hH _)) | (go_at_call 20; exact Calls.quiet_of_same (hT _))))
                          go_wp2_with fail
                          go_roundw
                          case measure => simp [intOf]; omega
                          case rel => exact ⟨k + 1, by omega, by go_num, pw_below_drewN hB3 _⟩
                · obtain rfl : k = O'.length := by omega
                  go_wp2_with fail
                  go_roundw
                  case measure => simp [intOf]; omega
                  case rel => exact ⟨i + 1, b', O', by omega, by go_num, HO', hOl', by omega, hbh', hb8.below hB2, Kd.R_below hR8 hB2, hB8w.trans (hB2.mono hB8w.size), Nat.le_trans hN8 hB2.size⟩
          · obtain rfl : i = l.length := by omega
            go_wp2_with fail
            go_ret
            exact ⟨rfl, hB⟩
end Go.Proofs.Ytcmjgkmnbenniaa.Ext
