/- DraftWay's walk. Written by wip/way.py. -/
import Derived.Test.YtcmjgkmnbenniaaRefD
namespace Go.Proofs.Ytcmjgkmnbenniaa.Ext
open Go.RowKit Go.Maps Go.WideMaps Go.Proofs.YtcmjgkmnbenniaaW.PrintWords Go.Proofs.YtcmjgkmnbenniaaW.PrintLast
theorem lit_row (w : World) (l : List ByteArray) (hl : l.length ≤ 1000) : Kd.R Kd.string 9 (w.alloc (.cells (l.map Value.string).toArray 9)) w.heap.size (fun k => w.heap.size ≤ k) (.slice (some ⟨w.heap.size, 0, none⟩) l.length l.length) l := by
  have h := World.ownsRow_lit (base := w.heap.size) (e := 9) (size := 1) w (l.map Value.string).toArray l.length (Nat.le_refl _) (by unfold maxLen; omega) (by simp)
  exact Kd.R_of_own (by simpa [encs] using h) (fun k hk => by simp [Value.ownBlock] at hk; omega)
theorem chain_zero (l : List (Int × Bool)) (h : ∀ p ∈ l, p.2 = true) : chain l = 0 := by
  induction l with
  | nil => rfl
  | cons a r ih =>
    obtain ⟨e, ok⟩ := a
    have : ok = true := h (e, ok) List.mem_cons_self
    unfold chain
    rw [if_pos this]
    exact ih fun p hp => h p (List.mem_cons_of_mem _ hp)
/-- A world's first n blocks. -/
def cutW (W : World) (n : Nat) : World := { W with heap := W.heap.extract 0 n }
theorem cut_size {W : World} {n : Nat} (h : n ≤ W.heap.size) : (cutW W n).heap.size = n := by simp [cutW]; omega
theorem cut_block {W : World} {n k : Nat} (hk : k < n) : (cutW W n).heap[k]? = W.heap[k]? := by
  simp only [cutW]
  rw [Array.getElem?_extract]
  by_cases h : k < W.heap.size
  · rw [if_pos (by omega), Nat.zero_add]
  · rw [if_neg (by omega), Array.getElem?_eq_none (by omega)]
theorem cut_below {W : World} {n : Nat} (h : n ≤ W.heap.size) : Below (cutW W n).heap.size (cutW W n) W := by
  rw [cut_size h]
  exact ⟨rfl, rfl, rfl, by rw [cut_size h]; exact h, fun k hk => (cut_block hk).symm⟩
theorem below_cut {w W W' : World} {B n : Nat} (hb : Below B w W) (h : Below n (cutW W n) W') (hBn : B ≤ n) (hs : W.heap.size ≤ W'.heap.size) : Below B w W' :=
  ⟨h.os.trans hb.os, h.tape.trans hb.tape, h.output.trans hb.output, Nat.le_trans hb.size hs, fun k hk => (h.block k (Nat.lt_of_lt_of_le hk hBn)).trans ((cut_block (Nat.lt_of_lt_of_le hk hBn)).trans (hb.block k hk))⟩
/-- A text put among rising ones of the call's own. -/
theorem put_any (N : Nat) (v : Value) (L : List ByteArray) (t : ByteArray) (W : World) (hN : N ≤ W.heap.size) (hR : Kd.R Kd.string 9 W N (fun k => N ≤ k) v L) (hL : L.length ≤ 2000) :
    Calls Try.prog 13 #[v, .string t] W fun e w' => ∃ v', e = .returned v' ∧ Kd.R Kd.string 9 w' N (fun k => N ≤ k) v' (putB t L) ∧ Below N (cutW W N) w' ∧ Kept W w' (fun k => N ≤ k) := by
  have hs := cut_size hN
  have h := X.supercargoref38_Put.calls (L.length + 1) (fun k => N ≤ k) v L t (putB t L) (cutW W N) W (cut_below hN) (by rw [hs]; exact hR) (put_f L t hL _ (by omega))
  rw [hs] at h
  refine h.mono ?_
  rintro e w' ⟨v', rfl, h1, h2, h3⟩
  exact ⟨v', rfl, Kd.R_mono h1 (fun k hk => hk.elim id (fun q => Nat.le_trans hN q)), h2, h3⟩
/-- A bill on its way: what DraftWay's first loop keeps. -/
structure Way (d : Dr) (day : Int) (b : St) (L : List ByteArray) (i : Nat) : Prop where
  st : b.state = if d.kind = 0 then 0 else 1
  acc : b.acc = true ↔ d.kind ≠ 0
  last : b.last = day ∨ (b.last = d.frm ∧ b.state = 0)
  len : b.passed.length ≤ i
  nm : nameB b.holder = true
  hsz : b.holder.size ≤ 100
  sorted : (L.map bl).Pairwise (· < ·)
  mem : ∀ x, x ∈ L.map bl ↔ (∃ p ∈ b.passed, bl p = x) ∨ x = bl d.drawer ∨ (b.acc = true ∧ x = bl d.drawee)
  size : L.length ≤ i + 2
theorem may_facts {d : Dr} (h : mayB d = true) : nameB d.drawer = true ∧ nameB d.drawee = true ∧ nameB d.payee = true ∧ d.drawer.toList ≠ d.drawee.toList ∧ d.payee.toList ≠ d.drawee.toList ∧ 0 ≤ d.frm ∧ d.frm ≤ 1048576 ∧ (d.kind = 0 ∨ d.kind = 1 ∨ d.kind = 2) ∧ True := by
  unfold mayB at h
  simp only [Bool.and_eq_true, decide_eq_true_eq, Bool.not_eq_true', beq_eq_false_iff_ne] at h
  obtain ⟨_, h2, h3, h4, h5, h6, _, _, _, h7, h8, h9⟩ := h
  refine ⟨h2, h3, h4, h5, h6, h7, h8, ?_, trivial⟩
  unfold termB at h9
  by_cases k0 : d.kind = 0
  · exact .inl k0
  · by_cases k1 : d.kind = 1
    · exact .inr (.inl k1)
    · by_cases k2 : d.kind = 2
      · exact .inr (.inr k2)
      · rw [if_neg k0, if_neg k1, if_neg k2] at h9
        cases h9
theorem infoS : ∃ i0, Try.prog.info? 9 = some i0 ∧ i0.zero = some (.string ⟨#[]⟩) ∧ i0.size = 1 ∧ i0.bytes = 16 := by
  have h : (Try.prog.info? 9).map (fun i => (i.zero, i.size, i.bytes)) = some (some (.string ⟨#[]⟩), 1, 16) := by kernel_rfl
  obtain ⟨i0, hi, hzz⟩ := Option.map_eq_some_iff.1 h
  simp only [Prod.mk.injEq] at hzz
  exact ⟨i0, hi, hzz⟩
/-- Those of the first j who do not hold it. -/
def others (b : St) (L : List ByteArray) (j : Nat) : List ByteArray := (L.take j).filter fun s => s.toList != b.holder.toList
theorem others_skip (b : St) {L : List ByteArray} {j : Nat} {z : ByteArray} (hz : L[j]? = some z) (h : (z.toList != b.holder.toList) = false) : others b L (j + 1) = others b L j := by
  obtain ⟨hl, rfl⟩ := List.getElem?_eq_some_iff.1 hz
  unfold others
  rw [List.take_succ_eq_append_getElem hl, List.filter_append]
  simp [h]
theorem others_take (b : St) {L : List ByteArray} {j : Nat} {z : ByteArray} (hz : L[j]? = some z) (h : (z.toList != b.holder.toList) = true) : others b L (j + 1) = others b L j ++ [z] := by
  obtain ⟨hl, rfl⟩ := List.getElem?_eq_some_iff.1 hz
  unfold others
  rw [List.take_succ_eq_append_getElem hl, List.filter_append]
  simp [h]
theorem way_liab {d : Dr} {day : Int} {b : St} {L : List ByteArray} {i : Nat} (h : Way d day b L i) : liabB d b = others b L L.length := by
  have e : liabL d b = (others b L L.length).map bl := by
    unfold others
    rw [List.take_length]
    refine liabL_eq d b _ ?_ fun x => ?_
    · exact List.Pairwise.sublist (List.Sublist.map _ List.filter_sublist) h.sorted
    · have h2 : b.state ≠ 2 := by rw [h.st]; split <;> decide
      rw [List.mem_map, ← h.mem x, List.mem_map]
      constructor
      · rintro ⟨z, hz, rfl⟩
        obtain ⟨h3, h4⟩ := List.mem_filter.1 hz
        refine ⟨h2, ?_, z, h3, rfl⟩
        rw [ByteArray.toList_eq, ByteArray.toList_eq] at h4
        simpa using h4
      · rintro ⟨_, h3, z, hz, rfl⟩
        refine ⟨z, List.mem_filter.2 ⟨hz, ?_⟩, rfl⟩
        rw [ByteArray.toList_eq, ByteArray.toList_eq]
        simpa using h3
  unfold liabB
  rw [e, List.map_map]
  conv => rhs; rw [← List.map_id (others b L L.length)]
  exact List.map_congr_left fun t _ => rfl
theorem way_pay {d : Dr} {more : Int} {b : St} {L : List ByteArray} {i : Nat} (h : Way d (d.frm + more) b L i) (f2 : nameB d.drawee = true) (hd : dayB (d.frm + more) = true) (hm : 0 ≤ more) : payCode d.drawee (d.frm + more) d b = 0 := by
  refine chain_zero _ (fun p hp => ?_)
  simp only [List.mem_cons, List.not_mem_nil, or_false] at hp
  have hst := h.st
  rcases hp with rfl | rfl | rfl | rfl | rfl
  · simp [f2, hd]
  · show decide (b.last ≤ d.frm + more) = true
    exact decide_eq_true (by rcases h.last with q | ⟨q, _⟩ <;> omega)
  · show [(0 : Int), 1, 3].contains b.state = true
    rw [hst]; split <;> rfl
  · show (b.state != 0 || d.kind == 0) = true
    rw [hst]
    by_cases k : d.kind = 0
    · simp [k]
    · simp [k]
  · show (if b.state = 3 then _ else d.drawee.toList == d.drawee.toList) = true
    rw [if_neg (by rw [hst]; split <;> decide)]
    simp
theorem way_start {d : Dr} {day : Int} (hk : ¬ d.kind = 0) (h3 : nameB d.payee = true) (h4 : d.payee.size ≤ 100) : Way d day (acceptSt 0 day (newSt d)) (putB d.drawee [d.drawer]) 0 := by
  refine ⟨by rw [if_neg hk]; rfl, by simp [acceptSt, newSt, hk], .inl rfl, by simp [acceptSt, newSt], h3, h4, putB_sorted _ _ (by simp), fun x => ?_, putB_length _ _⟩
  rw [putB_mem]
  simp [acceptSt, newSt]
  exact Or.comm
theorem Way.next {d : Dr} {day : Int} {b : St} {L : List ByteArray} {i : Nat} (h : Way d day b L i) (y : ByteArray) (hn : nameB y = true) (hy : y.size ≤ 100) : Way d day { b with passed := b.passed ++ [b.holder], holder := y, last := day } (putB b.holder L) (i + 1) := by
  refine ⟨h.st, h.acc, .inl rfl, by simp; have := h.len; omega, hn, hy, putB_sorted _ _ h.sorted, fun x => ?_, by have := putB_length b.holder L; have := h.size; omega⟩
  rw [putB_mem, h.mem]
  simp only [List.mem_append, List.mem_singleton]
  constructor
  · rintro (h1 | ⟨p, hp, rfl⟩ | h1)
    · exact .inl ⟨_, .inr rfl, h1.symm⟩
    · exact .inl ⟨p, .inl hp, rfl⟩
    · exact .inr h1
  · rintro (⟨p, hp | rfl, rfl⟩ | h1)
    · exact .inr (.inl ⟨p, hp, rfl⟩)
    · exact .inl rfl
    · exact .inr (.inr h1)
set_option maxHeartbeats 8000000 in
set_option maxRecDepth 100000 in
theorem Way_any (d : Dr) (l : List ByteArray) (A : Option Addr) (c : Nat) (more : Int) (w : World) (hr : Kd.C Kd.string w A l.length l) :
    Calls Try.prog 3 #[.agg d.arr, .slice A l.length c, .int .i64 more] w fun e w' => e = .returned (.bool true) ∧ Below w.heap.size w w' := by
  have hu25 := Try.underlying25
  unfold Dr.arr
  go_enter Try.func3, Try.ntmps3
  go_wp2_with fail
  refine (awake_any _).mono ?_
  rintro e w1 ⟨rfl, hB1'⟩
  have hB1 : Below w.heap.size w w1 := below_up (below_alloc (Below.refl _ _) _) hB1'
  have hbox : w1.heap[w.heap.size]? = some (.cells #[.string d.num, .string d.drawer, .string d.drawee, .string d.payee, .string d.cur, .int .i64 d.amt, .int .i64 d.kind, .int .i64 d.days, .int .i64 d.frm] 25 (0, 0)) := blk_below (blk_new w _) hB1'
  clear hB1'
  have q0 : w1.cell? ⟨w.heap.size, 0, none⟩ = some (.string d.num) := (blk_cell hbox 0).trans rfl
  have q1 : w1.cell? ⟨w.heap.size, 1, none⟩ = some (.string d.drawer) := (blk_cell hbox 1).trans rfl
  have q2 : w1.cell? ⟨w.heap.size, 2, none⟩ = some (.string d.drawee) := (blk_cell hbox 2).trans rfl
  have q3 : w1.cell? ⟨w.heap.size, 3, none⟩ = some (.string d.payee) := (blk_cell hbox 3).trans rfl
  have q4 : w1.cell? ⟨w.heap.size, 4, none⟩ = some (.string d.cur) := (blk_cell hbox 4).trans rfl
  have q5 : w1.cell? ⟨w.heap.size, 5, none⟩ = some (.int .i64 d.amt) := (blk_cell hbox 5).trans rfl
  have q6 : w1.cell? ⟨w.heap.size, 6, none⟩ = some (.int .i64 d.kind) := (blk_cell hbox 6).trans rfl
  have q7 : w1.cell? ⟨w.heap.size, 7, none⟩ = some (.int .i64 d.days) := (blk_cell hbox 7).trans rfl
  have q8 : w1.cell? ⟨w.heap.size, 8, none⟩ = some (.int .i64 d.frm) := (blk_cell hbox 8).trans rfl
  obtain ⟨rl, hrl⟩ : ∃ rl, X.supercargolaw38_long.f d.num d.drawer d.drawee d.payee d.cur d.amt d.kind d.days d.frm = some rl ∧ (rl = false → Short d) := by
    unfold X.supercargolaw38_long.f
    by_cases h1 : (d.num.size : Int) > 100
    · exact ⟨true, if_pos h1, fun h => by cases h⟩
    by_cases h2 : (d.drawer.size : Int) > 100
    · exact ⟨true, by rw [if_neg h1, if_pos h2], fun h => by cases h⟩
    by_cases h3 : (d.drawee.size : Int) > 100
    · exact ⟨true, by rw [if_neg h1, if_neg h2, if_pos h3], fun h => by cases h⟩
    by_cases h4 : (d.payee.size : Int) > 100
    · exact ⟨true, by rw [if_neg h1, if_neg h2, if_neg h3, if_pos h4], fun h => by cases h⟩
    · exact ⟨_, by rw [if_neg h1, if_neg h2, if_neg h3, if_neg h4], fun _ => ⟨by omega, by omega, by omega, by omega⟩⟩
  obtain ⟨hlf, hshort⟩ := hrl
  have cL := X.supercargolaw38_long.calls d.num d.drawer d.drawee d.payee d.cur d.amt d.kind d.days d.frm rl w1 hlf
  clear hlf
  cases rl with
  | true =>
    go_wp2_with fail
    refine cL.mono ?_
    rintro e w2 ⟨rfl, hB2⟩
    go_wp2_with fail
    go_ret
    exact ⟨rfl, below_up hB1 hB2⟩
  | false =>
    have hS := hshort rfl
    clear hshort
    by_cases hlen : (l.length : Int) > 10
    · go_wp2_with fail
      refine cL.mono ?_
      rintro e w2 ⟨rfl, hB2⟩
      go_wp2_with fail
      go_ret
      exact ⟨rfl, below_up hB1 hB2⟩
    · have hl10 : l.length ≤ 10 := by omega
      go_wp2_with fail
      refine cL.mono ?_
      rintro e w2 ⟨rfl, hB2⟩
      have hB02 := below_up hB1 hB2
      replace hbox := blk_below hbox hB2
      clear q0 q1 q2 q3 q4 q5 q6 q7 q8
      have q0 : w2.cell? ⟨w.heap.size, 0, none⟩ = some (.string d.num) := (blk_cell hbox 0).trans rfl
      have q1 : w2.cell? ⟨w.heap.size, 1, none⟩ = some (.string d.drawer) := (blk_cell hbox 1).trans rfl
      have q2 : w2.cell? ⟨w.heap.size, 2, none⟩ = some (.string d.drawee) := (blk_cell hbox 2).trans rfl
      have q3 : w2.cell? ⟨w.heap.size, 3, none⟩ = some (.string d.payee) := (blk_cell hbox 3).trans rfl
      have q4 : w2.cell? ⟨w.heap.size, 4, none⟩ = some (.string d.cur) := (blk_cell hbox 4).trans rfl
      have q5 : w2.cell? ⟨w.heap.size, 5, none⟩ = some (.int .i64 d.amt) := (blk_cell hbox 5).trans rfl
      have q6 : w2.cell? ⟨w.heap.size, 6, none⟩ = some (.int .i64 d.kind) := (blk_cell hbox 6).trans rfl
      have q7 : w2.cell? ⟨w.heap.size, 7, none⟩ = some (.int .i64 d.days) := (blk_cell hbox 7).trans rfl
      have q8 : w2.cell? ⟨w.heap.size, 8, none⟩ = some (.int .i64 d.frm) := (blk_cell hbox 8).trans rfl
      have cM := X.supercargoref38_May.calls 120 d.num d.drawer d.drawee d.payee d.cur d.amt d.kind d.days d.frm (mayB d) w2 (may38_f d hS 120 (by omega))
      obtain ⟨rm, hrm⟩ : ∃ rm, mayB d = rm := ⟨_, rfl⟩
      rw [hrm] at cM
      go_wp2_with fail
      refine cM.mono ?_
      rintro e w3 ⟨rfl, hB3⟩
      have hB03 := below_up hB02 hB3
      replace hbox := blk_below hbox hB3
      clear q0 q1 q2 q3 q4 q5 q6 q7 q8
      have q0 : w3.cell? ⟨w.heap.size, 0, none⟩ = some (.string d.num) := (blk_cell hbox 0).trans rfl
      have q1 : w3.cell? ⟨w.heap.size, 1, none⟩ = some (.string d.drawer) := (blk_cell hbox 1).trans rfl
      have q2 : w3.cell? ⟨w.heap.size, 2, none⟩ = some (.string d.drawee) := (blk_cell hbox 2).trans rfl
      have q3 : w3.cell? ⟨w.heap.size, 3, none⟩ = some (.string d.payee) := (blk_cell hbox 3).trans rfl
      have q4 : w3.cell? ⟨w.heap.size, 4, none⟩ = some (.string d.cur) := (blk_cell hbox 4).trans rfl
      have q5 : w3.cell? ⟨w.heap.size, 5, none⟩ = some (.int .i64 d.amt) := (blk_cell hbox 5).trans rfl
      have q6 : w3.cell? ⟨w.heap.size, 6, none⟩ = some (.int .i64 d.kind) := (blk_cell hbox 6).trans rfl
      have q7 : w3.cell? ⟨w.heap.size, 7, none⟩ = some (.int .i64 d.days) := (blk_cell hbox 7).trans rfl
      have q8 : w3.cell? ⟨w.heap.size, 8, none⟩ = some (.int .i64 d.frm) := (blk_cell hbox 8).trans rfl
      cases rm with
      | false =>
        go_wp2_with fail
        go_ret
        exact ⟨rfl, hB03⟩
      | true =>
        obtain ⟨f1, f2, f3, f4, f5, f6, f7, f8, f9⟩ := may_facts hrm
        have hwr : wrap64 (d.frm + more) = d.frm + more ∨ more < 0 ∨ more > 1048576 := by
          by_cases h1 : more < 0
          · exact .inr (.inl h1)
          · by_cases h2 : more > 1048576
            · exact .inr (.inr h2)
            · exact .inl (w64 (by omega) (by omega))
        have hmay := Lib.hid hrm
        clear hrm
        by_cases c1 : more < 0
        · have c1b : decide (more < 0) = true := decide_eq_true c1
          clear hwr
          go_wp2_with fail
          go_ret
          exact ⟨rfl, hB03⟩
        by_cases c2 : 1048576 < more
        · have c1b : decide (more < 0) = false := decide_eq_false c1
          have c2b : decide (1048576 < more) = true := decide_eq_true c2
          clear hwr
          go_wp2_with fail
          go_ret
          exact ⟨rfl, hB03⟩
        have c1b : decide (more < 0) = false := decide_eq_false c1
        have c2b : decide (1048576 < more) = false := decide_eq_false c2
        have hw : wrap64 (d.frm + more) = d.frm + more := w64 (by omega) (by omega)
        by_cases c3 : 1048576 < d.frm + more
        · have c3b : decide (1048576 < d.frm + more) = true := decide_eq_true c3
          clear hwr c1 c2
          go_wp2_with fail
          go_ret
          exact ⟨rfl, hB03⟩
        have c3b : decide (1048576 < d.frm + more) = false := decide_eq_false c3
        have cN := New_any 2 d w3 (by rw [mayd_f d hS 2 (by omega), hmay.out])
        unfold Dr.arr at cN
        have hmore : 0 ≤ more := by omega
        have hday : Hid (d.frm + more ≤ 1048576) := by show _ ≤ _; omega
        have hdayB : dayB (d.frm + more) = true := by unfold dayB; rw [decide_eq_true (by omega : 0 ≤ d.frm + more), decide_eq_true (by omega : d.frm + more ≤ 1048576)]; rfl
        have hbox3 := hbox
        clear hwr c1 c2 c3
        go_wp2_with fail
        refine cN.mono ?_
        rintro e w4 ⟨g, m, rfl, hb4, hB4⟩
        have hB04 := below_up hB03 hB4
        replace hbox := blk_below hbox hB4
        clear q0 q1 q2 q3 q4 q5 q6 q7 q8
        have q0 : w4.cell? ⟨w.heap.size, 0, none⟩ = some (.string d.num) := (blk_cell hbox 0).trans rfl
        have q1 : w4.cell? ⟨w.heap.size, 1, none⟩ = some (.string d.drawer) := (blk_cell hbox 1).trans rfl
        have q2 : w4.cell? ⟨w.heap.size, 2, none⟩ = some (.string d.drawee) := (blk_cell hbox 2).trans rfl
        have q3 : w4.cell? ⟨w.heap.size, 3, none⟩ = some (.string d.payee) := (blk_cell hbox 3).trans rfl
        have q4 : w4.cell? ⟨w.heap.size, 4, none⟩ = some (.string d.cur) := (blk_cell hbox 4).trans rfl
        have q5 : w4.cell? ⟨w.heap.size, 5, none⟩ = some (.int .i64 d.amt) := (blk_cell hbox 5).trans rfl
        have q6 : w4.cell? ⟨w.heap.size, 6, none⟩ = some (.int .i64 d.kind) := (blk_cell hbox 6).trans rfl
        have q7 : w4.cell? ⟨w.heap.size, 7, none⟩ = some (.int .i64 d.days) := (blk_cell hbox 7).trans rfl
        have q8 : w4.cell? ⟨w.heap.size, 8, none⟩ = some (.int .i64 d.frm) := (blk_cell hbox 8).trans rfl
        have hg4 := hb4.ltg
        have hm4 := hb4.ltm
        have hM4 : w.heap.size < w4.heap.size := blk_lt hbox
        have hW5 : Below w4.heap.size w4 (w4.alloc (.cells #[.string d.drawer] 9)) := below_alloc (Below.refl _ _) _
        have hR5 : Kd.R Kd.string 9 (w4.alloc (.cells #[.string d.drawer] 9)) w4.heap.size (fun k => w4.heap.size ≤ k) (.slice (some ⟨w4.heap.size, 0, none⟩) 1 1) [d.drawer] := lit_row w4 [d.drawer] (by simp)
        have r6 : (w4.alloc (.cells #[.string d.drawer] 9)).cell? ⟨w.heap.size, 6, none⟩ = some (.int .i64 d.kind) := keepc hW5 q6
        have r2 : (w4.alloc (.cells #[.string d.drawer] 9)).cell? ⟨w.heap.size, 2, none⟩ = some (.string d.drawee) := keepc hW5 q2
        have r3 : (w4.alloc (.cells #[.string d.drawer] 9)).cell? ⟨w.heap.size, 3, none⟩ = some (.string d.payee) := keepc hW5 q3
        have hbox5 := blk_below hbox hW5
        have hb5 := hb4.below hW5
        have hlo : w3.heap.size ≤ w4.heap.size := hB4.size
        have hlow : w.heap.size < w3.heap.size := blk_lt hbox3
        by_cases hk : d.kind = 0
        · have hkb : (d.kind != 0) = false := by simp [hk]
          have hway : Way d (d.frm + more) (newSt d) [d.drawer] 0 := by
            refine ⟨by rw [if_pos hk]; rfl, by simp [newSt, hk], .inr ⟨rfl, rfl⟩, by simp [newSt], f3, hS.h4, by simp, fun x => ?_, by simp⟩
            simp [newSt]
          have hk' := Lib.hid hk
          clear hk f4 f5 f8 f9
          have E_B : Below w.heap.size w (w4.alloc (.cells #[.string d.drawer] 9)) := hB04.alloc hB04.size _
          go_wp2_with fail
          rw [hw]
          go_loopw [10, 11, 12] (fun v10 v11 v12 wr => ∃ (i : Nat) (b : St) (L : List ByteArray), i ≤ l.length ∧ v12 = .int .i64 i ∧ v11 = .string b.holder ∧ Kd.R Kd.string 9 wr w4.heap.size (fun k => w4.heap.size ≤ k) v10 L ∧ IsBill wr w3.heap.size g m d b ∧ Aside (Way d (d.frm + more) b L i) ∧ Below w.heap.size w wr ∧ w4.heap.size ≤ wr.heap.size ∧ wr.heap[w.heap.size]? = some (.cells #[.string d.num, .string d.drawer, .string d.drawee, .string d.payee, .string d.cur, .int .i64 d.amt, .int .i64 d.kind, .int .i64 d.days, .int .i64 d.frm] 25 (0, 0))) (fun _ _ v12 _ => l.length - (intOf v12).toNat)
          case atStart => exact ⟨0, (newSt d), [d.drawer], Nat.zero_le _, rfl, rfl, hR5, hb5, hway, E_B, hW5.size, hbox5⟩
          case round =>
            obtain ⟨i, b, L, hi, rfl, rfl, hR, hb, HWay, hB, hN, hbx⟩ := hrel
            by_cases hlt : i < l.length
            · obtain ⟨ad, eA, hcell0⟩ := Kd.at_string hr (i : Int) (by omega) (by omega)
              subst eA
              obtain ⟨y, hy⟩ : ∃ y, rdOf ByteArray.empty l (i : Int) = y := ⟨_, rfl⟩
              rw [hy, Int.toNat_natCast] at hcell0
              clear hy
              have hadlt := World.block_lt_of_cell? w _ hcell0
              have hto : ∀ W, Below w.heap.size w W → W.cell? (ad.add i) = some (.string y) := fun W hW => (hW.cell hadlt).trans hcell0
              have hcell := hto _ hB
              by_cases g1 : (y.size : Int) > 100
              · have g1b : decide (100 < (y.size : Int)) = true := decide_eq_true g1
                have g1c : decide (100 < y.size) = true := decide_eq_true (by omega)
                clear g1
                go_wp2_with fail
                go_ret
                exact ⟨rfl, hB⟩
              have g1b : decide (100 < (y.size : Int)) = false := decide_eq_false g1
              have g1c : decide (100 < y.size) = false := decide_eq_false (by omega)
              have hysz : y.size ≤ 100 := by omega
              have cNm := fun W => X.supercargoref06_Name.calls 110 y (nameB y) W (name_f y (by omega) 110 (by omega))
              clear g1
              cases hn : nameB y with
              | false =>
                rw [hn] at cNm
                go_wp2_with fail
                refine (cNm _).mono ?_
                rintro e w' ⟨rfl, nd, rfl⟩
                go_wp2_with fail
                go_ret
                exact ⟨rfl, pw_below_drewN hB nd⟩
              | true =>
                rw [hn] at cNm
                by_cases g2 : y.toList = b.holder.toList
                · have g2b : (y.toList == b.holder.toList) = true := beq_iff_eq.2 g2
                  clear g2
                  go_wp2_with fail
                  refine (cNm _).mono ?_
                  rintro e w' ⟨rfl, nd, rfl⟩
                  have hcelld := hto _ (pw_below_drewN hB nd)
                  go_wp2_with fail
                  go_ret
                  exact ⟨rfl, pw_below_drewN hB nd⟩
                · have g2b : (y.toList == b.holder.toList) = false := beq_eq_false_iff_ne.2 g2
                  have hpc : passCode b.holder y (d.frm + more) b = 0 := by
                    unfold passCode
                    rw [if_pos ⟨hn, g2⟩]
                    have way := HWay.out
                    refine chain_zero _ (fun p hp => ?_)
                    simp only [List.mem_cons, List.not_mem_nil, or_false] at hp
                    rcases hp with rfl | rfl | rfl | rfl
                    · simp [way.nm, hdayB]
                    · show decide (b.last ≤ d.frm + more) = true
                      exact decide_eq_true (by rcases way.last with q | ⟨q, _⟩ <;> omega)
                    · show [(0 : Int), 1].contains b.state = true
                      rw [way.st]
                      split <;> rfl
                    · simp
                  have hn' := Lib.hid hn
                  clear g2 hn
                  go_wp2_with fail
                  refine (cNm _).mono ?_
                  rintro e w' ⟨rfl, nd, rfl⟩
                  have hBd : Below w.heap.size w (wr.drewN nd) := pw_below_drewN hB nd
                  have hdd : Below wr.heap.size wr (wr.drewN nd) := pw_below_drewN (Below.refl _ _) nd
                  have hcelld := hto _ hBd
                  have hbd := hb.below hdd
                  have hRd := Kd.R_below hR hdd
                  have hbxd := blk_below hbx hdd
                  have hNd : w4.heap.size ≤ (wr.drewN nd).heap.size := hN
                  generalize wr.drewN nd = wd at hBd hcelld hbd hRd hbxd hNd ⊢
                  clear hdd hB hcell hb hR hbx hN
                  have cP := Pass_any b.holder y (d.frm + more) (by have := HWay.out.hsz; omega) (by omega) wd w3.heap.size g m d b hbd (by have := HWay.out.len; omega) (Nat.le_trans hlo hNd)
                  rw [hpc] at cP
                  go_wp2_with fail
                  refine cP.mono ?_
                  rintro e w5 ⟨rfl, hb5, hB5, hK5⟩
                  have hgm := hbd.ne
                  have hR5 := Kd.R_kept hRd hK5 (fun k hk e => by rcases e with rfl | rfl <;> omega)
                  have hbx5 := blk_kept hbxd hK5 (by have := hbd.log; have := hbd.lom; rintro (e | e) <;> omega)
                  have hB05 : Below w.heap.size w w5 := hBd.trans (hB5.mono (Nat.le_of_lt hlow))
                  have hN5 : w4.heap.size ≤ w5.heap.size := Nat.le_trans hNd hK5.1
                  have cT := put_any w4.heap.size _ L b.holder w5 hN5 hR5 (by have := HWay.out.size; omega)
                  clear hBd hcelld hbd hRd hbxd hNd
                  go_wp2_with fail
                  refine cT.mono ?_
                  rintro e w6 ⟨v6, rfl, hR6, hB6, hK6⟩
                  have hbx6 := blk_kept hbx5 hK6 (by show ¬ w4.heap.size ≤ w.heap.size; omega)
                  have hb6 := hb5.kept hK6 (by show ¬ w4.heap.size ≤ g; omega) (by show ¬ w4.heap.size ≤ m; omega)
                  have hB06 : Below w.heap.size w w6 := below_cut hB05 hB6 (by omega) hK6.1
                  have hcell6 := hto _ hB06
                  have hN6 : w4.heap.size ≤ w6.heap.size := Nat.le_trans hN5 hK6.1
                  go_wp2_with fail
                  go_roundw
                  case measure => simp [intOf]; omega
                  case rel => exact ⟨i + 1, { b with passed := b.passed ++ [b.holder], holder := y, last := d.frm + more }, putB b.holder L, by omega, by go_num, rfl, hR6, hb6, HWay.out.next y hn'.out hysz, hB06, hN6, hbx6⟩
            · obtain ⟨A2, c2, rfl⟩ := Kd.R_slice hR
              have hCL := (Kd.R_reads' hR).2.2
              have hc2 := (Kd.R_reads' hR).2.1
              have hLz : L.length ≤ 12 := by have := HWay.out.size; omega
              generalize wr = wO at *
              obtain ⟨i0, hi0, hz0, hz1, hz2⟩ := infoS
              have own0 : (wO.alloc (.cells #[] 9)).ownsRow wO.heap.size 9 1 (.slice (some ⟨wO.heap.size, 0, none⟩) 0 0) 0 [] := World.ownsRow_lit wO #[] 0 (Nat.le_refl _) (Nat.zero_le _) rfl
              go_wp2_with fail
              go_loopw [13, 14] (fun v13 v14 w2 => ∃ j : Nat, j ≤ L.length ∧ v14 = .int .i64 j ∧ w2.ownsRow wO.heap.size 9 1 v13 (others b L j).length ((others b L j).map Value.string) ∧ Below wO.heap.size wO w2) (fun _ v14 _ => L.length - (intOf v14).toNat)
              case atStart => exact ⟨0, Nat.zero_le _, rfl, own0, below_alloc (Below.refl _ _) _⟩
              case round =>
                obtain ⟨j, hj, rfl, hown, hB2⟩ := hrel
                by_cases hlj : j < L.length
                · obtain ⟨ad2, eA2, hcz0⟩ := Kd.at_string hCL (j : Int) (by omega) (by omega)
                  subst eA2
                  obtain ⟨z, hz⟩ : ∃ z, rdOf ByteArray.empty L (j : Int) = z := ⟨_, rfl⟩
                  rw [hz, Int.toNat_natCast] at hcz0
                  have hzj : L[j]? = some z := by rw [← hz]; unfold rdOf; rw [Int.toNat_natCast, List.getD_eq_getElem?_getD, List.getElem?_eq_getElem hlj]; rfl
                  clear hz
                  have hcz := keepc hB2 hcz0
                  have hol : (others b L j).length ≤ 12 := by have := List.length_filter_le (fun s : ByteArray => s.toList != b.holder.toList) (L.take j); unfold others; rw [List.length_take] at this; omega
                  by_cases ez : z.toList = b.holder.toList
                  · have ezb : (z.toList != b.holder.toList) = false := by simp [ez]
                    have hnx := Lib.hid (others_skip b hzj ezb)
                    have ezc : (z.toList == b.holder.toList) = true := beq_iff_eq.2 ez
                    clear ez ezb
                    go_wp2_with fail
                    go_roundw
                    case measure => simp [intOf]; omega
                    case rel => exact ⟨j + 1, by omega, by go_num, by rw [hnx.out]; exact hown, hB2⟩
                  · have ezb : (z.toList != b.holder.toList) = true := by simp [ez]
                    have hnx := Lib.hid (others_take b hzj ezb)
                    have ezc : (z.toList == b.holder.toList) = false := beq_eq_false_iff_ne.2 ez
                    clear ez ezb
                    go_wp2_with (at_builtin; refine wpList_append_own_at _ rfl _ _ 26 rfl wO.heap.size 9 i0 (.string ⟨#[]⟩) 1 16 Try.underlying26 hi0 hz0 hz1 hz2 rfl (by decide) _ _ _ rfl (hown.alloc _) ⟨wr.heap.size, 0, none⟩ 1 1 [.string z] rfl rfl (World.news_of_block (blk_new wr _)) (by simp [Value.oneCell']) (by unfold maxLen; omega) (by omega) (Nat.le_trans hB2.size (by simp)) ?_)
                    intro v' w3b hown' hgr' hnil' hloc'
                    have hB3b : Below wO.heap.size wO w3b := (hB2.alloc hB2.size _).grown hgr' (Nat.le_trans hB2.size (by simp)) (fun k hk => own_base hown k hk)
                    have hown3 : Aside (w3b.ownsRow wO.heap.size 9 1 v' (others b L (j + 1)).length ((others b L (j + 1)).map Value.string)) := by
                      have h : w3b.ownsRow wO.heap.size 9 1 v' (others b L (j + 1)).length ((others b L (j + 1)).map Value.string) := by rw [hnx.out]; simpa using hown'
                      exact h
                    clear hown' hgr' hnil' hloc'
                    go_wp2_with fail
                    go_roundw
                    case measure => simp [intOf]; omega
                    case rel => exact ⟨j + 1, by omega, by go_num, hown3.out, hB3b⟩
                · obtain rfl : j = L.length := by omega
                  have hb2 := hb.below hB2
                  have hbx2 := blk_below hbx hB2
                  have hBW2 : Below w.heap.size w wr := hB.trans (hB2.mono hB.size)
                  have hsmall : Small d b := ⟨by have := hS.h1; omega, by have := hS.h2; omega, by have := hS.h3; omega, by have := hS.h4; omega, by have := HWay.out.hsz; omega, by have := HWay.out.len; omega⟩
                  have hO : Hid (liabB d b = others b L L.length) := way_liab HWay.out
                  have hOl : (others b L L.length).length ≤ 12 := by have := List.length_filter_le (fun s : ByteArray => s.toList != b.holder.toList) (L.take L.length); unfold others; rw [List.length_take] at this; omega
                  have hR13 : Kd.R Kd.string 9 wr wO.heap.size (fun _ => True) _ (others b L L.length) := Kd.R_of_own hown (fun _ _ => trivial)
                  obtain ⟨A4, c4, rfl⟩ := Kd.R_slice hR13
                  have hC4 := (Kd.R_reads' hR13).2.2
                  have hc4 := (Kd.R_reads' hR13).2.1
                  have cH := Holder_any wr w3.heap.size g m d b hb2
                  have cLi := Liable_any wr w3.heap.size g m d b hb2 hsmall
                  clear hown hR13 hB2
                  go_wp2_with fail
                  refine cH.mono ?_
                  rintro e w' ⟨rfl, rfl⟩
                  go_wp2_with fail
                  refine cLi.mono ?_
                  rintro e w8 ⟨v, rfl, hrow, hB8⟩
                  obtain ⟨A3, c3, rfl, hC3, hc3⟩ := liab_slice hrow
                  have cT := X.supercargoref26_Texts.calls 20 A3 c3 (liabB d b) A4 c4 (others b L L.length) true w8 hC3 hc3 (Kd.C_below hC4 hB8) hc4 (by rw [hO.out]; exact texts_f _ (by omega) 20 (by omega))
                  go_wp2_with fail
                  refine cT.mono ?_
                  rintro e w9 ⟨rfl, nd, rfl⟩
                  have hB9 : Below wr.heap.size wr (w8.drewN nd) := pw_below_drewN hB8 nd
                  have hb9 := hb2.below hB9
                  have hbx9 := blk_below hbx2 hB9
                  have s2 : (w8.drewN nd).cell? ⟨w.heap.size, 2, none⟩ = some (.string d.drawee) := (blk_cell hbx9 2).trans rfl
                  have hBW9 : Below w.heap.size w (w8.drewN nd) := hBW2.trans (hB9.mono hBW2.size)
                  have hlo9 : w3.heap.size ≤ (w8.drewN nd).heap.size := by have := hb9.ltg; have := hb9.log; omega
                  have cPay := Pay_any d.drawee (d.frm + more) (by have := hS.h3; omega) (w8.drewN nd) w3.heap.size g m d b hb9 hsmall (by have := liab_length d b; have := HWay.out.len; omega) hlo9
                  have hpay : payCode d.drawee (d.frm + more) d b = 0 := way_pay HWay.out f2 hdayB hmore
                  rw [hpay] at cPay
                  generalize w8.drewN nd = w9 at hB9 hb9 hbx9 s2 hBW9 hlo9 cPay ⊢
                  go_wp2_with fail
                  refine cPay.mono ?_
                  rintro e wA ⟨rfl, hbA, hBA, hKA⟩
                  have hBWA : Below w.heap.size w wA := hBW9.trans (hBA.mono (Nat.le_of_lt hlow))
                  have cS := State_any wA _ _ _ _ _ hbA
                  rw [show (paySt 0 (d.frm + more) b).state = 2 from rfl] at cS
                  have cLz := Liable_any wA _ _ _ _ _ hbA ⟨hsmall.a1, hsmall.a2, hsmall.a3, hsmall.a4, hsmall.a5, hsmall.a6⟩
                  go_wp2_with fail
                  refine cS.mono ?_
                  rintro e w' ⟨rfl, rfl⟩
                  go_wp2_with fail
                  refine cLz.mono ?_
                  rintro e wB ⟨v, rfl, hrow2, hBB⟩
                  have hz : liabB d (paySt 0 (d.frm + more) b) = [] := by unfold liabB liabL; rw [if_pos (show (paySt 0 (d.frm + more) b).state = 2 from rfl)]; rfl
                  obtain ⟨A5, c5, rfl, _, _⟩ := liab_slice hrow2
                  rw [hz]
                  go_wp2_with fail
                  go_ret
                  exact ⟨rfl, below_up hBWA hBB⟩
        · have hkb : (d.kind != 0) = true := by simp [hk]
          have hac : acceptCode d.drawee (d.frm + more) d (newSt d) = 0 := chain_zero _ (fun p hp => by
            simp only [List.mem_cons, List.not_mem_nil, or_false] at hp
            rcases hp with rfl | rfl | rfl | rfl | rfl
            · simp [f2, hdayB]
            · show decide (d.frm ≤ d.frm + more) = true
              exact decide_eq_true (by omega)
            · rfl
            · exact hkb
            · simp)
          have cA := Accept_any d.drawee (d.frm + more) (by have := hS.h3; omega) _ w3.heap.size g m d (newSt d) hb5 (Nat.le_trans hlo hW5.size)
          rw [hac] at cA
          go_wp2_with fail
          refine cA.mono ?_
          rintro e w6 ⟨rfl, hb6, hB6, hK6⟩
          have hR6 := Kd.R_kept hR5 hK6 (fun k hk e => by have : k = g := e; omega)
          have hbox6 := blk_kept hbox5 hK6 (by show ¬ w.heap.size = g; have := hb4.log; omega)
          have s2 : w6.cell? ⟨w.heap.size, 2, none⟩ = some (.string d.drawee) := (blk_cell hbox6 2).trans rfl
          have hN6 : w4.heap.size ≤ w6.heap.size := Nat.le_trans hW5.size hK6.1
          have hB06 : Below w.heap.size w w6 := ⟨hB6.os.trans (hW5.os.trans hB04.os) |>.trans rfl, hB6.tape.trans (hW5.tape.trans hB04.tape), hB6.output.trans (hW5.output.trans hB04.output), Nat.le_trans hB04.size hN6, fun k hk => (hB6.block k (Nat.lt_trans hk hlow)).trans ((hW5.block k (Nat.lt_trans hk hM4)).trans (hB04.block k hk))⟩
          have cP := put_any w4.heap.size _ [d.drawer] d.drawee w6 hN6 hR6 (by simp)
          go_wp2_with fail
          refine cP.mono ?_
          rintro e w7 ⟨v7, rfl, hR7, hB7, hK7⟩
          have hbox7 := blk_kept hbox6 hK7 (by show ¬ w4.heap.size ≤ w.heap.size; omega)
          have hb7 := hb6.kept hK7 (by show ¬ w4.heap.size ≤ g; omega) (by show ¬ w4.heap.size ≤ m; omega)
          have hB07 : Below w.heap.size w w7 := below_cut hB06 hB7 (by omega) hK7.1
          have s3 : w7.cell? ⟨w.heap.size, 3, none⟩ = some (.string d.payee) := (blk_cell hbox7 3).trans rfl
          have hway : Way d (d.frm + more) (acceptSt 0 (d.frm + more) (newSt d)) (putB d.drawee [d.drawer]) 0 := way_start hk f3 hS.h4
          have hk' := Lib.hid hk
          clear hk
          go_wp2_with fail
          go_loopw [10, 11, 12] (fun v10 v11 v12 wr => ∃ (i : Nat) (b : St) (L : List ByteArray), i ≤ l.length ∧ v12 = .int .i64 i ∧ v11 = .string b.holder ∧ Kd.R Kd.string 9 wr w4.heap.size (fun k => w4.heap.size ≤ k) v10 L ∧ IsBill wr w3.heap.size g m d b ∧ Aside (Way d (d.frm + more) b L i) ∧ Below w.heap.size w wr ∧ w4.heap.size ≤ wr.heap.size ∧ wr.heap[w.heap.size]? = some (.cells #[.string d.num, .string d.drawer, .string d.drawee, .string d.payee, .string d.cur, .int .i64 d.amt, .int .i64 d.kind, .int .i64 d.days, .int .i64 d.frm] 25 (0, 0))) (fun _ _ v12 _ => l.length - (intOf v12).toNat)
          case atStart => exact ⟨0, (acceptSt 0 (d.frm + more) (newSt d)), (putB d.drawee [d.drawer]), Nat.zero_le _, rfl, rfl, hR7, hb7, hway, hB07, (Nat.le_trans hN6 hK7.1), hbox7⟩
          case round =>
            obtain ⟨i, b, L, hi, rfl, rfl, hR, hb, HWay, hB, hN, hbx⟩ := hrel
            by_cases hlt : i < l.length
            · obtain ⟨ad, eA, hcell0⟩ := Kd.at_string hr (i : Int) (by omega) (by omega)
              subst eA
              obtain ⟨y, hy⟩ : ∃ y, rdOf ByteArray.empty l (i : Int) = y := ⟨_, rfl⟩
              rw [hy, Int.toNat_natCast] at hcell0
              clear hy
              have hadlt := World.block_lt_of_cell? w _ hcell0
              have hto : ∀ W, Below w.heap.size w W → W.cell? (ad.add i) = some (.string y) := fun W hW => (hW.cell hadlt).trans hcell0
              have hcell := hto _ hB
              by_cases g1 : (y.size : Int) > 100
              · have g1b : decide (100 < (y.size : Int)) = true := decide_eq_true g1
                have g1c : decide (100 < y.size) = true := decide_eq_true (by omega)
                clear g1
                go_wp2_with fail
                go_ret
                exact ⟨rfl, hB⟩
              have g1b : decide (100 < (y.size : Int)) = false := decide_eq_false g1
              have g1c : decide (100 < y.size) = false := decide_eq_false (by omega)
              have hysz : y.size ≤ 100 := by omega
              have cNm := fun W => X.supercargoref06_Name.calls 110 y (nameB y) W (name_f y (by omega) 110 (by omega))
              clear g1
              cases hn : nameB y with
              | false =>
                rw [hn] at cNm
                go_wp2_with fail
                refine (cNm _).mono ?_
                rintro e w' ⟨rfl, nd, rfl⟩
                go_wp2_with fail
                go_ret
                exact ⟨rfl, pw_below_drewN hB nd⟩
              | true =>
                rw [hn] at cNm
                by_cases g2 : y.toList = b.holder.toList
                · have g2b : (y.toList == b.holder.toList) = true := beq_iff_eq.2 g2
                  clear g2
                  go_wp2_with fail
                  refine (cNm _).mono ?_
                  rintro e w' ⟨rfl, nd, rfl⟩
                  have hcelld := hto _ (pw_below_drewN hB nd)
                  go_wp2_with fail
                  go_ret
                  exact ⟨rfl, pw_below_drewN hB nd⟩
                · have g2b : (y.toList == b.holder.toList) = false := beq_eq_false_iff_ne.2 g2
                  have hpc : passCode b.holder y (d.frm + more) b = 0 := by
                    unfold passCode
                    rw [if_pos ⟨hn, g2⟩]
                    have way := HWay.out
                    refine chain_zero _ (fun p hp => ?_)
                    simp only [List.mem_cons, List.not_mem_nil, or_false] at hp
                    rcases hp with rfl | rfl | rfl | rfl
                    · simp [way.nm, hdayB]
                    · show decide (b.last ≤ d.frm + more) = true
                      exact decide_eq_true (by rcases way.last with q | ⟨q, _⟩ <;> omega)
                    · show [(0 : Int), 1].contains b.state = true
                      rw [way.st]
                      split <;> rfl
                    · simp
                  have hn' := Lib.hid hn
                  clear g2 hn
                  go_wp2_with fail
                  refine (cNm _).mono ?_
                  rintro e w' ⟨rfl, nd, rfl⟩
                  have hBd : Below w.heap.size w (wr.drewN nd) := pw_below_drewN hB nd
                  have hdd : Below wr.heap.size wr (wr.drewN nd) := pw_below_drewN (Below.refl _ _) nd
                  have hcelld := hto _ hBd
                  have hbd := hb.below hdd
                  have hRd := Kd.R_below hR hdd
                  have hbxd := blk_below hbx hdd
                  have hNd : w4.heap.size ≤ (wr.drewN nd).heap.size := hN
                  generalize wr.drewN nd = wd at hBd hcelld hbd hRd hbxd hNd ⊢
                  clear hdd hB hcell hb hR hbx hN
                  have cP := Pass_any b.holder y (d.frm + more) (by have := HWay.out.hsz; omega) (by omega) wd w3.heap.size g m d b hbd (by have := HWay.out.len; omega) (Nat.le_trans hlo hNd)
                  rw [hpc] at cP
                  go_wp2_with fail
                  refine cP.mono ?_
                  rintro e w5 ⟨rfl, hb5, hB5, hK5⟩
                  have hgm := hbd.ne
                  have hR5 := Kd.R_kept hRd hK5 (fun k hk e => by rcases e with rfl | rfl <;> omega)
                  have hbx5 := blk_kept hbxd hK5 (by have := hbd.log; have := hbd.lom; rintro (e | e) <;> omega)
                  have hB05 : Below w.heap.size w w5 := hBd.trans (hB5.mono (Nat.le_of_lt hlow))
                  have hN5 : w4.heap.size ≤ w5.heap.size := Nat.le_trans hNd hK5.1
                  have cT := put_any w4.heap.size _ L b.holder w5 hN5 hR5 (by have := HWay.out.size; omega)
                  clear hBd hcelld hbd hRd hbxd hNd
                  go_wp2_with fail
                  refine cT.mono ?_
                  rintro e w6 ⟨v6, rfl, hR6, hB6, hK6⟩
                  have hbx6 := blk_kept hbx5 hK6 (by show ¬ w4.heap.size ≤ w.heap.size; omega)
                  have hb6 := hb5.kept hK6 (by show ¬ w4.heap.size ≤ g; omega) (by show ¬ w4.heap.size ≤ m; omega)
                  have hB06 : Below w.heap.size w w6 := below_cut hB05 hB6 (by omega) hK6.1
                  have hcell6 := hto _ hB06
                  have hN6 : w4.heap.size ≤ w6.heap.size := Nat.le_trans hN5 hK6.1
                  go_wp2_with fail
                  go_roundw
                  case measure => simp [intOf]; omega
                  case rel => exact ⟨i + 1, { b with passed := b.passed ++ [b.holder], holder := y, last := d.frm + more }, putB b.holder L, by omega, by go_num, rfl, hR6, hb6, HWay.out.next y hn'.out hysz, hB06, hN6, hbx6⟩
            · obtain ⟨A2, c2, rfl⟩ := Kd.R_slice hR
              have hCL := (Kd.R_reads' hR).2.2
              have hc2 := (Kd.R_reads' hR).2.1
              have hLz : L.length ≤ 12 := by have := HWay.out.size; omega
              generalize wr = wO at *
              obtain ⟨i0, hi0, hz0, hz1, hz2⟩ := infoS
              have own0 : (wO.alloc (.cells #[] 9)).ownsRow wO.heap.size 9 1 (.slice (some ⟨wO.heap.size, 0, none⟩) 0 0) 0 [] := World.ownsRow_lit wO #[] 0 (Nat.le_refl _) (Nat.zero_le _) rfl
              go_wp2_with fail
              go_loopw [13, 14] (fun v13 v14 w2 => ∃ j : Nat, j ≤ L.length ∧ v14 = .int .i64 j ∧ w2.ownsRow wO.heap.size 9 1 v13 (others b L j).length ((others b L j).map Value.string) ∧ Below wO.heap.size wO w2) (fun _ v14 _ => L.length - (intOf v14).toNat)
              case atStart => exact ⟨0, Nat.zero_le _, rfl, own0, below_alloc (Below.refl _ _) _⟩
              case round =>
                obtain ⟨j, hj, rfl, hown, hB2⟩ := hrel
                by_cases hlj : j < L.length
                · obtain ⟨ad2, eA2, hcz0⟩ := Kd.at_string hCL (j : Int) (by omega) (by omega)
                  subst eA2
                  obtain ⟨z, hz⟩ : ∃ z, rdOf ByteArray.empty L (j : Int) = z := ⟨_, rfl⟩
                  rw [hz, Int.toNat_natCast] at hcz0
                  have hzj : L[j]? = some z := by rw [← hz]; unfold rdOf; rw [Int.toNat_natCast, List.getD_eq_getElem?_getD, List.getElem?_eq_getElem hlj]; rfl
                  clear hz
                  have hcz := keepc hB2 hcz0
                  have hol : (others b L j).length ≤ 12 := by have := List.length_filter_le (fun s : ByteArray => s.toList != b.holder.toList) (L.take j); unfold others; rw [List.length_take] at this; omega
                  by_cases ez : z.toList = b.holder.toList
                  · have ezb : (z.toList != b.holder.toList) = false := by simp [ez]
                    have hnx := Lib.hid (others_skip b hzj ezb)
                    have ezc : (z.toList == b.holder.toList) = true := beq_iff_eq.2 ez
                    clear ez ezb
                    go_wp2_with fail
                    go_roundw
                    case measure => simp [intOf]; omega
                    case rel => exact ⟨j + 1, by omega, by go_num, by rw [hnx.out]; exact hown, hB2⟩
                  · have ezb : (z.toList != b.holder.toList) = true := by simp [ez]
                    have hnx := Lib.hid (others_take b hzj ezb)
                    have ezc : (z.toList == b.holder.toList) = false := beq_eq_false_iff_ne.2 ez
                    clear ez ezb
                    go_wp2_with (at_builtin; refine wpList_append_own_at _ rfl _ _ 26 rfl wO.heap.size 9 i0 (.string ⟨#[]⟩) 1 16 Try.underlying26 hi0 hz0 hz1 hz2 rfl (by decide) _ _ _ rfl (hown.alloc _) ⟨wr.heap.size, 0, none⟩ 1 1 [.string z] rfl rfl (World.news_of_block (blk_new wr _)) (by simp [Value.oneCell']) (by unfold maxLen; omega) (by omega) (Nat.le_trans hB2.size (by simp)) ?_)
                    intro v' w3b hown' hgr' hnil' hloc'
                    have hB3b : Below wO.heap.size wO w3b := (hB2.alloc hB2.size _).grown hgr' (Nat.le_trans hB2.size (by simp)) (fun k hk => own_base hown k hk)
                    have hown3 : Aside (w3b.ownsRow wO.heap.size 9 1 v' (others b L (j + 1)).length ((others b L (j + 1)).map Value.string)) := by
                      have h : w3b.ownsRow wO.heap.size 9 1 v' (others b L (j + 1)).length ((others b L (j + 1)).map Value.string) := by rw [hnx.out]; simpa using hown'
                      exact h
                    clear hown' hgr' hnil' hloc'
                    go_wp2_with fail
                    go_roundw
                    case measure => simp [intOf]; omega
                    case rel => exact ⟨j + 1, by omega, by go_num, hown3.out, hB3b⟩
                · obtain rfl : j = L.length := by omega
                  have hb2 := hb.below hB2
                  have hbx2 := blk_below hbx hB2
                  have hBW2 : Below w.heap.size w wr := hB.trans (hB2.mono hB.size)
                  have hsmall : Small d b := ⟨by have := hS.h1; omega, by have := hS.h2; omega, by have := hS.h3; omega, by have := hS.h4; omega, by have := HWay.out.hsz; omega, by have := HWay.out.len; omega⟩
                  have hO : Hid (liabB d b = others b L L.length) := way_liab HWay.out
                  have hOl : (others b L L.length).length ≤ 12 := by have := List.length_filter_le (fun s : ByteArray => s.toList != b.holder.toList) (L.take L.length); unfold others; rw [List.length_take] at this; omega
                  have hR13 : Kd.R Kd.string 9 wr wO.heap.size (fun _ => True) _ (others b L L.length) := Kd.R_of_own hown (fun _ _ => trivial)
                  obtain ⟨A4, c4, rfl⟩ := Kd.R_slice hR13
                  have hC4 := (Kd.R_reads' hR13).2.2
                  have hc4 := (Kd.R_reads' hR13).2.1
                  have cH := Holder_any wr w3.heap.size g m d b hb2
                  have cLi := Liable_any wr w3.heap.size g m d b hb2 hsmall
                  clear hown hR13 hB2
                  go_wp2_with fail
                  refine cH.mono ?_
                  rintro e w' ⟨rfl, rfl⟩
                  go_wp2_with fail
                  refine cLi.mono ?_
                  rintro e w8 ⟨v, rfl, hrow, hB8⟩
                  obtain ⟨A3, c3, rfl, hC3, hc3⟩ := liab_slice hrow
                  have cT := X.supercargoref26_Texts.calls 20 A3 c3 (liabB d b) A4 c4 (others b L L.length) true w8 hC3 hc3 (Kd.C_below hC4 hB8) hc4 (by rw [hO.out]; exact texts_f _ (by omega) 20 (by omega))
                  go_wp2_with fail
                  refine cT.mono ?_
                  rintro e w9 ⟨rfl, nd, rfl⟩
                  have hB9 : Below wr.heap.size wr (w8.drewN nd) := pw_below_drewN hB8 nd
                  have hb9 := hb2.below hB9
                  have hbx9 := blk_below hbx2 hB9
                  have s2 : (w8.drewN nd).cell? ⟨w.heap.size, 2, none⟩ = some (.string d.drawee) := (blk_cell hbx9 2).trans rfl
                  have hBW9 : Below w.heap.size w (w8.drewN nd) := hBW2.trans (hB9.mono hBW2.size)
                  have hlo9 : w3.heap.size ≤ (w8.drewN nd).heap.size := by have := hb9.ltg; have := hb9.log; omega
                  have cPay := Pay_any d.drawee (d.frm + more) (by have := hS.h3; omega) (w8.drewN nd) w3.heap.size g m d b hb9 hsmall (by have := liab_length d b; have := HWay.out.len; omega) hlo9
                  have hpay : payCode d.drawee (d.frm + more) d b = 0 := way_pay HWay.out f2 hdayB hmore
                  rw [hpay] at cPay
                  generalize w8.drewN nd = w9 at hB9 hb9 hbx9 s2 hBW9 hlo9 cPay ⊢
                  go_wp2_with fail
                  refine cPay.mono ?_
                  rintro e wA ⟨rfl, hbA, hBA, hKA⟩
                  have hBWA : Below w.heap.size w wA := hBW9.trans (hBA.mono (Nat.le_of_lt hlow))
                  have cS := State_any wA _ _ _ _ _ hbA
                  rw [show (paySt 0 (d.frm + more) b).state = 2 from rfl] at cS
                  have cLz := Liable_any wA _ _ _ _ _ hbA ⟨hsmall.a1, hsmall.a2, hsmall.a3, hsmall.a4, hsmall.a5, hsmall.a6⟩
                  go_wp2_with fail
                  refine cS.mono ?_
                  rintro e w' ⟨rfl, rfl⟩
                  go_wp2_with fail
                  refine cLz.mono ?_
                  rintro e wB ⟨v, rfl, hrow2, hBB⟩
                  have hz : liabB d (paySt 0 (d.frm + more) b) = [] := by unfold liabB liabL; rw [if_pos (show (paySt 0 (d.frm + more) b).state = 2 from rfl)]; rfl
                  obtain ⟨A5, c5, rfl, _, _⟩ := liab_slice hrow2
                  rw [hz]
                  go_wp2_with fail
                  go_ret
                  exact ⟨rfl, below_up hBWA hBB⟩
end Go.Proofs.Ytcmjgkmnbenniaa.Ext
