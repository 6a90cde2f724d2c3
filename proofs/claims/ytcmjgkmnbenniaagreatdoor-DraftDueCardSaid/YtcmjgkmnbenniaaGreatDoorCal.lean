/- Calendars: whether a day rests; the first day from a day on that is worked on. -/
import Derived.Test.YtcmjgkmnbenniaaGreatDoorXx10
import Derived.Test.YtcmjgkmnbenniaaGreatDoorShelf
import Derived.Test.YtcmjgkmnbenniaaGreatDoorRefD
import Derived.ScopeJumps
import Derived.WalkMore
namespace Go.Proofs.YtcmjgkmnbenniaaGreatDoor.Ext
open Go.RowKit Go.Maps Go.WideMaps Go.Proofs.YtcmjgkmnbenniaaGreatDoorW.PrintWords Go.Proofs.YtcmjgkmnbenniaaGreatDoorW.PrintLast
theorem C_head {w : World} {A : Option Addr} {l : List Int} (h : Kd.C (Kd.int .i64) w A l.length l) (hn : 0 < l.length) : ∃ b off, A = some ⟨b, off, none⟩ ∧ ∀ j, j < l.length → w.cell? ⟨b, off + j, none⟩ = some (.int .i64 (l.getD j 0)) := by
  obtain ⟨ad, rfl, hat⟩ := h.2.2 hn
  have each : ∀ j, j < l.length → w.cell? (ad.add j) = some (.int .i64 (l.getD j 0)) := by
    intro j hj
    obtain ⟨c, hc, hk, hu⟩ := hat j _ (List.getElem?_eq_getElem hj)
    have hk' : c = [.int .i64 l[j]] := hk
    subst hk'
    have := hu 0 _ rfl
    rw [List.getD_eq_getElem?_getD, List.getElem?_eq_getElem hj]
    have e : j * (Kd.int .i64).sz + 0 = j := by show j * 1 + 0 = j; omega
    rw [e] at this
    exact this
  obtain ⟨b, off, spot⟩ := ad
  have h0 := each 0 hn
  have hs : spot = none := by
    cases spot with
    | none => rfl
    | some s =>
      simp [Addr.add, World.cell?] at h0
      split at h0 <;> simp at h0
  subst hs
  refine ⟨b, off, rfl, fun j hj => ?_⟩
  have := each j hj
  by_cases e : j = 0
  · subst e; simpa [Addr.add] using this
  · simpa [Addr.add, e] using this
/-- Is a number in a list? -/
def hasI (l : List Int) (x : Int) : Bool := l.contains x
theorem contains_C (A : Option Addr) (l : List Int) (c : Nat) (x : Int) (w : World) (h : Kd.C (Kd.int .i64) w A l.length l) (hl : l.length ≤ 100000) :
    Calls Tryz.prog 61 #[.slice A l.length c, .int .i64 x] w fun e w' => e = .returned (.bool (hasI l x)) ∧ w = w' := by
  by_cases hn : 0 < l.length
  · obtain ⟨b, off, rfl, hat⟩ := C_head h hn
    refine (Tryz.slices_Contains_int b off l.length c l x w (Nat.le_refl _) (by omega) hat).mono fun e w' ⟨h1, h2⟩ => ⟨?_, h2.symm⟩
    rw [h1, List.take_length]; rfl
  · obtain rfl : l = [] := List.length_eq_zero_iff.1 (by omega)
    exact (Tryz.slices_Contains_int_empty A c x w).mono fun e w' ⟨h1, h2⟩ => ⟨h1, h2.symm⟩
theorem search_C (A : Option Addr) (l : List Int) (c : Nat) (x : Int) (w : World) (h : Kd.C (Kd.int .i64) w A l.length l) (hl : l.length ≤ 100000) (hs : l.Pairwise (· < ·)) :
    Calls Tryz.prog 107 #[.slice A l.length c, .int .i64 x] w fun e w' => ∃ n, e = .returned (.tuple #[.int .i64 n, .bool (hasI l x)]) ∧ ∃ q, w' = w.drewN q := by
  by_cases hn : 0 < l.length
  · obtain ⟨b, off, rfl, hat⟩ := C_head h hn
    refine (Tryz.slices_BinarySearch_int b off l.length c l x w (Nat.le_refl _) (by omega) hat (by rw [List.take_length]; exact hs.imp fun h => Int.le_of_lt h)).mono fun e w' ⟨h1, h2⟩ => ⟨((l.take l.length).countP (· < x) : Nat), ?_, h2⟩
    rw [h1, List.take_length]; rfl
  · obtain rfl : l = [] := List.length_eq_zero_iff.1 (by omega)
    exact (Tryz.slices_BinarySearch_int_empty A c x w).mono fun e w' ⟨h1, h2⟩ => ⟨0, h1, 0, by rw [h2]; rfl⟩
/-- A calendar that may be, as the walks read it. -/
structure Cal where
  (rest hol : List Int)
  sorted : hol.Pairwise (· < ·)
  (hr : rest.length ≤ 5000) (hh : hol.length ≤ 5000)
/-- Its rows. -/
structure CalIn (w : World) (A1 A2 : Option Addr) (C : Cal) : Prop where
  c1 : Kd.C (Kd.int .i64) w A1 C.rest.length C.rest
  c2 : Kd.C (Kd.int .i64) w A2 C.hol.length C.hol
theorem CalIn.below {w w' : World} {A1 A2 : Option Addr} {C : Cal} (h : CalIn w A1 A2 C) (hb : Below w.heap.size w w') : CalIn w' A1 A2 C := ⟨Kd.C_below h.c1 hb, Kd.C_below h.c2 hb⟩
def Cal.rests (C : Cal) (day : Int) : Bool := hasI C.rest (day % 7) || hasI C.hol day
set_option maxHeartbeats 4000000 in
set_option maxRecDepth 100000 in
theorem free_any (A1 A2 : Option Addr) (c1 c2 : Nat) (C : Cal) (day : Int) (w : World) (h : CalIn w A1 A2 C) :
    Calls Tryz.prog 87 #[.agg #[.slice A1 C.rest.length c1, .slice A2 C.hol.length c2], .int .i64 day] w fun e w' => e = .returned (.bool (hasI C.hol day)) ∧ Below w.heap.size w w' := by
  have hu := Tryz.underlying24
  have hB : Below w.heap.size w (w.alloc (.cells #[.slice A1 C.rest.length c1, .slice A2 C.hol.length c2] 24)) := below_alloc (Below.refl _ _) _
  have cS := search_C A2 C.hol c2 day _ (h.below hB).c2 (by have := C.hh; omega) C.sorted
  go_enter Tryz.func87, Tryz.ntmps87
  go_wp2_with fail
  refine cS.mono ?_
  rintro e w' ⟨n, rfl, q, rfl⟩
  go_wp2_with fail
  go_ret
  exact ⟨rfl, pw_below_drewN hB q⟩
set_option maxHeartbeats 4000000 in
set_option maxRecDepth 100000 in
theorem rests_any (A1 A2 : Option Addr) (c1 c2 : Nat) (C : Cal) (day : Int) (h0 : 0 ≤ day) (hd : day ≤ 1048576) (w : World) (h : CalIn w A1 A2 C) :
    Calls Tryz.prog 69 #[.agg #[.slice A1 C.rest.length c1, .slice A2 C.hol.length c2], .int .i64 day] w fun e w' => e = .returned (.bool (C.rests day)) ∧ Below w.heap.size w w' := by
  have hu := Tryz.underlying24
  have hB : Below w.heap.size w (w.alloc (.cells #[.slice A1 C.rest.length c1, .slice A2 C.hol.length c2] 24)) := below_alloc (Below.refl _ _) _
  have cK := contains_C A1 C.rest c1 (day % 7) _ (h.below hB).c1 (by have := C.hr; omega)
  have cF := free_any A1 A2 c1 c2 C day _ (h.below hB)
  obtain ⟨p, hp⟩ : ∃ p, hasI C.rest (day % 7) = p := ⟨_, rfl⟩
  have hR : Hid (C.rests day = (p || hasI C.hol day)) := by show _ = _; unfold Cal.rests; rw [hp]
  rw [hp] at cK
  clear hp
  cases p with
  | true =>
    go_enter Tryz.func69, Tryz.ntmps69
    go_wp2_with fail
    refine cK.mono ?_
    rintro e w' ⟨rfl, rfl⟩
    go_wp2_with fail
    go_ret
    exact ⟨by rw [hR.out]; rfl, hB⟩
  | false =>
    go_enter Tryz.func69, Tryz.ntmps69
    go_wp2_with fail
    refine cK.mono ?_
    rintro e w' ⟨rfl, rfl⟩
    go_wp2_with fail
    refine cF.mono ?_
    rintro e w' ⟨rfl, hB2⟩
    go_wp2_with fail
    go_ret
    exact ⟨by rw [hR.out]; rfl, below_up hB hB2⟩
/-! ### may a calendar be? -/
def emptyCal : Cal := ⟨[], [], List.Pairwise.nil, by decide, by decide⟩
theorem rises_l (l : List Int) (m : Int) (hl : l.length ≤ 5000) (e : Nat) : ∀ (k i : Nat), i + e = l.length → e < k →
    ∃ r, X.day_rises.l0 k l m l (l.length : Int) (i : Int) = some r ∧ (r = true → ∀ j, i ≤ j → j < l.length → j ≠ 0 → l.getD (j - 1) 0 < l.getD j 0) := by
  induction e with
  | zero =>
    intro k i h hk
    obtain ⟨k, rfl⟩ : ∃ m, k = m + 1 := ⟨k - 1, by omega⟩
    simp only [X.day_rises.l0]
    exact ⟨_, by rw [if_neg (by omega)], fun _ j h1 h2 => by omega⟩
  | succ e ih =>
    intro k i h hk
    obtain ⟨k, rfl⟩ : ∃ m, k = m + 1 := ⟨k - 1, by omega⟩
    simp only [X.day_rises.l0]
    rw [if_pos (by omega), if_pos (by omega), if_pos (by omega)]
    by_cases h1 : Go.Proofs.YtcmjgkmnbenniaaGreatDoorW.PrintWords.rd l (i : Int) < 0
    · exact ⟨false, if_pos h1, fun h => by cases h⟩
    by_cases h2 : Go.Proofs.YtcmjgkmnbenniaaGreatDoorW.PrintWords.rd l (i : Int) > m
    · exact ⟨false, by rw [if_neg h1, if_pos h2], fun h => by cases h⟩
    obtain ⟨r, h3, h4⟩ := ih k (i + 1) (by omega) (by omega)
    have hw : wrap64 ((i : Int) + 1) = ((i + 1 : Nat) : Int) := by rw [w64 (by omega) (by omega)]; omega
    by_cases hi : (i : Int) > 0
    · have hw2 : wrap64 ((i : Int) - 1) = ((i - 1 : Nat) : Int) := by rw [w64 (by omega) (by omega)]; omega
      rw [if_neg h1, if_neg h2, if_pos hi, hw2, if_pos (by omega), if_pos (by omega), hw]
      by_cases h5 : Go.Proofs.YtcmjgkmnbenniaaGreatDoorW.PrintWords.rd l ((i - 1 : Nat) : Int) ≥ Go.Proofs.YtcmjgkmnbenniaaGreatDoorW.PrintWords.rd l (i : Int)
      · exact ⟨false, if_pos h5, fun h => by cases h⟩
      · refine ⟨r, by rw [if_neg h5]; exact h3, fun hr j g1 g2 g3 => ?_⟩
        by_cases e : j = i
        · subst e
          unfold Go.Proofs.YtcmjgkmnbenniaaGreatDoorW.PrintWords.rd at h5
          simp only [Int.toNat_natCast] at h5
          omega
        · exact h4 hr j (by omega) g2 g3
    · refine ⟨r, by rw [if_neg h1, if_neg h2, if_neg hi, hw]; exact h3, fun hr j g1 g2 g3 => ?_⟩
      exact h4 hr j (by omega) g2 g3
theorem rises_case (l : List Int) (m : Int) (hl : l.length ≤ 5000) : ∃ r, X.day_rises.f 6000 l m = some r ∧ (r = true → l.Pairwise (· < ·)) := by
  obtain ⟨r, h1, h2⟩ := rises_l l m hl l.length 6000 0 (by omega) (by omega)
  refine ⟨r, h1, fun hr => ?_⟩
  have h3 := h2 hr
  have step : ∀ j, j + 1 < l.length → l.getD j 0 < l.getD (j + 1) 0 := fun j hj => by simpa using h3 (j + 1) (by omega) hj (by omega)
  have all : ∀ e i, i + e + 1 < l.length → l.getD i 0 < l.getD (i + e + 1) 0 := by
    intro e
    induction e with
    | zero => exact fun i hi => step i hi
    | succ e ih => exact fun i hi => Int.lt_trans (ih i (by omega)) (step (i + e + 1) hi)
  refine List.pairwise_iff_getElem.2 fun i j hi hj hij => ?_
  have := all (j - i - 1) i (by omega)
  rw [show i + (j - i - 1) + 1 = j by omega] at this
  rw [List.getD_eq_getElem?_getD, List.getD_eq_getElem?_getD, List.getElem?_eq_getElem hi, List.getElem?_eq_getElem hj] at this
  exact this
theorem may_case (l1 l2 : List Int) (h1 : l1.length ≤ 5000) (h2 : l2.length ≤ 5000) : ∃ r, X.day_May.f 6000 l1 l2 = some r ∧ (r = true → l2.Pairwise (· < ·)) := by
  unfold X.day_May.f
  obtain ⟨r1, e1, _⟩ := rises_case l1 6 h1
  obtain ⟨r2, e2, g2⟩ := rises_case l2 1048576 h2
  rw [e1]
  simp only [Option.bind_some]
  cases r1 with
  | false => exact ⟨false, by simp, fun h => by cases h⟩
  | true =>
    rw [if_pos rfl, e2]
    exact ⟨r2, rfl, g2⟩
open Classical in
/-- The calendar that counts: this one, if it may be; else the empty one. -/
noncomputable def calOf (l1 l2 : List Int) : Cal :=
  if h : l1.length ≤ 5000 ∧ l2.length ≤ 5000 ∧ X.day_May.f 6000 l1 l2 = some true then
    ⟨l1, l2, by
      obtain ⟨r, e, g⟩ := may_case l1 l2 h.1 h.2.1
      rw [h.2.2] at e
      exact g (Option.some.inj e).symm, h.1, h.2.1⟩
  else emptyCal
/-- The calendar's rows, as day.own gives them. -/
structure Owned (w : World) (l1 l2 : List Int) (A1 A2 : Option Addr) (c1 c2 : Nat) (C : Cal) (B1 B2 : Option Addr) (d1 d2 : Nat) : Prop where
  own : ∀ W, Below w.heap.size w W → Calls Tryz.prog 67 #[.agg #[.slice A1 l1.length c1, .slice A2 l2.length c2]] W fun e w' => e = .returned (.agg #[.slice B1 C.rest.length d1, .slice B2 C.hol.length d2]) ∧ Below W.heap.size W w'
  inn : CalIn w B1 B2 C
theorem Owned.later {w w' : World} {l1 l2 : List Int} {A1 A2 : Option Addr} {c1 c2 : Nat} {C : Cal} {B1 B2 : Option Addr} {d1 d2 : Nat} (h : Owned w l1 l2 A1 A2 c1 c2 C B1 B2 d1 d2) (hb : Below w.heap.size w w') : Owned w' l1 l2 A1 A2 c1 c2 C B1 B2 d1 d2 :=
  ⟨fun W hW => h.own W (below_up hb hW), h.inn.below hb⟩
set_option maxHeartbeats 4000000 in
set_option maxRecDepth 100000 in
theorem own_cal (A1 A2 : Option Addr) (c1 c2 : Nat) (l1 l2 : List Int) (w : World) (h1 : Kd.C (Kd.int .i64) w A1 l1.length l1) (h2 : Kd.C (Kd.int .i64) w A2 l2.length l2) (k1 : l1.length ≤ c1) (k2 : l2.length ≤ c2) (hl1 : l1.length ≤ 5000) (hl2 : l2.length ≤ 5000) :
    ∃ C B1 B2 d1 d2, C = calOf l1 l2 ∧ Owned w l1 l2 A1 A2 c1 c2 C B1 B2 d1 d2 := by
  have hu := Tryz.underlying24
  obtain ⟨r, hm, hs⟩ := may_case l1 l2 hl1 hl2
  cases r with
  | true =>
    refine ⟨⟨l1, l2, hs rfl, hl1, hl2⟩, A1, A2, c1, c2, by unfold calOf; rw [dif_pos ⟨hl1, hl2, hm⟩], fun W hW => ?_, ⟨h1, h2⟩⟩
    obtain ⟨WB, hWB⟩ : ∃ WB, WB = (W.alloc (.cells #[.slice A1 l1.length c1, .slice A2 l2.length c2] 24)).alloc (.cells #[.slice none 0 0, .slice none 0 0] 24) := ⟨_, rfl⟩
    have hBB : Below W.heap.size W WB := by rw [hWB]; exact (below_alloc (Below.refl _ _) _).alloc (by simp) _
    have b1 : WB.heap[W.heap.size]? = some (.cells #[.slice A1 l1.length c1, .slice A2 l2.length c2] 24 (0, 0)) := by rw [hWB]; exact blk_below (blk_new W _) (below_alloc (Below.refl _ _) _)
    have b2 : WB.heap[W.heap.size + 1]? = some (.cells #[.slice none 0 0, .slice none 0 0] 24 (0, 0)) := by rw [hWB]; simpa using blk_new (W.alloc (.cells #[.slice A1 l1.length c1, .slice A2 l2.length c2] 24)) (.cells #[.slice none 0 0, .slice none 0 0] 24)
    have hWB2 := below_up hW hBB
    have cM := X.day_May.calls 6000 A1 c1 l1 A2 c2 l2 true WB (Kd.C_below h1 hWB2) k1 (Kd.C_below h2 hWB2) k2 hm
    rw [hWB] at cM
    go_enter Tryz.func67, Tryz.ntmps67
    go_wp2_with fail
    refine cM.mono ?_
    rw [← hWB]
    rintro e W3 ⟨rfl, hB3⟩
    replace b1 := blk_below b1 hB3
    replace b2 := blk_below b2 hB3
    have a0 : W3.cell? ⟨W.heap.size, 0, none⟩ = some (.slice A1 l1.length c1) := (blk_cell b1 0).trans rfl
    have a1 : W3.cell? ⟨W.heap.size, 1, none⟩ = some (.slice A2 l2.length c2) := (blk_cell b1 1).trans rfl
    have z0 : W3.cell? ⟨W.heap.size + 1, 0, none⟩ = some (.slice none 0 0) := (blk_cell b2 0).trans rfl
    have z1 : W3.cell? ⟨W.heap.size + 1, 1, none⟩ = some (.slice none 0 0) := (blk_cell b2 1).trans rfl
    have f0 : W3.frozen? ⟨W.heap.size + 1, 0, none⟩ = false := blk_frozen b2 0
    have f1 : W3.frozen? ⟨W.heap.size + 1, 1, none⟩ = false := blk_frozen b2 1
    have hBw := below_up hBB hB3
    clear cM hWB hWB2 hBB hB3
    go_wp2_with fail
    refine bodyPost_ret (results_cell_row rfl _ _ (W.heap.size + 1) 24 #[.slice A1 l1.length c1, .slice A2 l2.length c2] (0, 0) _ rfl (by simpa using blk_set (blk_set b2 0 (.slice A1 l1.length c1)) 1 (.slice A2 l2.length c2)) Tryz.underlying24 rfl (by kernel_rfl)) rfl ?_
    exact ⟨rfl, (hBw.setCell (by simp) _).setCell (by simp) _⟩
  | false =>
    refine ⟨emptyCal, none, none, 0, 0, by unfold calOf; rw [dif_neg (fun h => by rw [hm] at h; cases h.2.2)], fun W hW => ?_, ⟨Kd.C_nil _ _, Kd.C_nil _ _⟩⟩
    obtain ⟨WB, hWB⟩ : ∃ WB, WB = (W.alloc (.cells #[.slice A1 l1.length c1, .slice A2 l2.length c2] 24)).alloc (.cells #[.slice none 0 0, .slice none 0 0] 24) := ⟨_, rfl⟩
    have hBB : Below W.heap.size W WB := by rw [hWB]; exact (below_alloc (Below.refl _ _) _).alloc (by simp) _
    have b1 : WB.heap[W.heap.size]? = some (.cells #[.slice A1 l1.length c1, .slice A2 l2.length c2] 24 (0, 0)) := by rw [hWB]; exact blk_below (blk_new W _) (below_alloc (Below.refl _ _) _)
    have b2 : WB.heap[W.heap.size + 1]? = some (.cells #[.slice none 0 0, .slice none 0 0] 24 (0, 0)) := by rw [hWB]; simpa using blk_new (W.alloc (.cells #[.slice A1 l1.length c1, .slice A2 l2.length c2] 24)) (.cells #[.slice none 0 0, .slice none 0 0] 24)
    have hWB2 := below_up hW hBB
    have cM := X.day_May.calls 6000 A1 c1 l1 A2 c2 l2 false WB (Kd.C_below h1 hWB2) k1 (Kd.C_below h2 hWB2) k2 hm
    rw [hWB] at cM
    go_enter Tryz.func67, Tryz.ntmps67
    go_wp2_with fail
    refine cM.mono ?_
    rw [← hWB]
    rintro e W3 ⟨rfl, hB3⟩
    replace b1 := blk_below b1 hB3
    replace b2 := blk_below b2 hB3
    have a0 : W3.cell? ⟨W.heap.size, 0, none⟩ = some (.slice A1 l1.length c1) := (blk_cell b1 0).trans rfl
    have a1 : W3.cell? ⟨W.heap.size, 1, none⟩ = some (.slice A2 l2.length c2) := (blk_cell b1 1).trans rfl
    have z0 : W3.cell? ⟨W.heap.size + 1, 0, none⟩ = some (.slice none 0 0) := (blk_cell b2 0).trans rfl
    have z1 : W3.cell? ⟨W.heap.size + 1, 1, none⟩ = some (.slice none 0 0) := (blk_cell b2 1).trans rfl
    have f0 : W3.frozen? ⟨W.heap.size + 1, 0, none⟩ = false := blk_frozen b2 0
    have f1 : W3.frozen? ⟨W.heap.size + 1, 1, none⟩ = false := blk_frozen b2 1
    have hBw := below_up hBB hB3
    clear cM hWB hWB2 hBB hB3
    go_wp2_with fail
    refine bodyPost_ret (results_cell_row rfl _ _ (W.heap.size + 1) 24 #[.slice none 0 0, .slice none 0 0] (0, 0) _ rfl (by simpa using blk_set (blk_set b2 0 (.slice none 0 0)) 1 (.slice none 0 0)) Tryz.underlying24 rfl (by kernel_rfl)) rfl ?_
    exact ⟨rfl, (hBw.setCell (by simp) _).setCell (by simp) _⟩
theorem own_any (A1 A2 : Option Addr) (c1 c2 : Nat) (l1 l2 : List Int) (w : World) (h1 : Kd.C (Kd.int .i64) w A1 l1.length l1) (h2 : Kd.C (Kd.int .i64) w A2 l2.length l2) (k1 : l1.length ≤ c1) (k2 : l2.length ≤ c2) (hl1 : l1.length ≤ 5000) (hl2 : l2.length ≤ 5000) :
    ∃ C B1 B2 d1 d2, Owned w l1 l2 A1 A2 c1 c2 C B1 B2 d1 d2 := by
  obtain ⟨C, B1, B2, d1, d2, _, h⟩ := own_cal A1 A2 c1 c2 l1 l2 w h1 h2 k1 k2 hl1 hl2
  exact ⟨C, B1, B2, d1, d2, h⟩
/-! ### the first day that is worked on -/
/-- The first day from s on that does not rest, if there is one. -/
def NextIs (R : Int → Bool) (s n : Int) (ok : Bool) : Prop :=
  (ok = true ∧ s ≤ n ∧ 0 ≤ n ∧ n ≤ 1048576 ∧ R n = false ∧ (∀ k, s ≤ k → k < n → R k = true) ∧ 0 ≤ s) ∨ (ok = false ∧ n = 0 ∧ (s < 0 ∨ ∀ k, s ≤ k → k ≤ 1048576 → R k = true))
def AlongPost (C : Cal) (day : Int) (w : World) (e : Ending) (w' : World) : Prop := ∃ n ok, e = .returned (.tuple #[.int .i64 n, .bool ok]) ∧ NextIs C.rests day n ok ∧ Below w.heap.size w w'
set_option maxHeartbeats 8000000 in
set_option maxRecDepth 100000 in
theorem along_any (A1 A2 B1 B2 : Option Addr) (c1 c2 d1 d2 : Nat) (l1 l2 : List Int) (C : Cal) (day : Int) (w : World) (h : Owned w l1 l2 A1 A2 c1 c2 C B1 B2 d1 d2) :
    Calls Tryz.prog 41 #[.agg #[.slice A1 l1.length c1, .slice A2 l2.length c2], .int .i64 day, .int .i64 1, .int .i64 1] w (AlongPost C day w) := by
  have hu := Tryz.underlying24
  have hBx : Below w.heap.size w (w.alloc (.cells #[.slice A1 l1.length c1, .slice A2 l2.length c2] 24)) := below_alloc (Below.refl _ _) _
  have cO := h.own _ hBx
  have hbx := blk_new w (.cells #[.slice A1 l1.length c1, .slice A2 l2.length c2] 24)
  go_enter Tryz.func41, Tryz.ntmps41
  go_wp2_with fail
  refine wp_scope_jumps 0 (fun a' w' => ∃ (x : Int) (u5 u6 u7 u10 u11 u12 u13 u14 u15 u16 u17 u18 u19 u20 u21 u22 u23 u24 u25 u26 : Value), a' = { tmps := #[.agg #[.slice A1 l1.length c1, .slice A2 l2.length c2], .int .i64 x, .int .i64 1, .int .i64 1, .pointer (some ⟨w.heap.size, 0, none⟩), u5, u6, u7, .int .i64 0, .bool false, u10, u11, u12, u13, u14, u15, u16, u17, u18, u19, u20, u21, u22, u23, u24, u25, u26], defers := [] } ∧ day ≤ x ∧ 0 ≤ day ∧ x ≤ 1048577 ∧ Aside (∀ k, day ≤ k → k < x → C.rests k = true) ∧ w'.heap[w.heap.size]? = some (.cells #[.slice B1 C.rest.length d1, .slice B2 C.hol.length d2] 24 (0, 0)) ∧ Below w.heap.size w w') (fun a' _ => (1048577 - intOf (a'.tmps.getD 1 undef)).toNat) rfl ?_ ?_
  · go_wp2_with fail
    refine cO.mono ?_
    rintro e w1 ⟨rfl, hB1⟩
    replace hbx := blk_below hbx hB1
    have z0 : w1.cell? ⟨w.heap.size, 0, none⟩ = some (.slice A1 l1.length c1) := (blk_cell hbx 0).trans rfl
    have z1 : w1.cell? ⟨w.heap.size, 1, none⟩ = some (.slice A2 l2.length c2) := (blk_cell hbx 1).trans rfl
    have f0 : w1.frozen? ⟨w.heap.size, 0, none⟩ = false := blk_frozen hbx 0
    have f1 : w1.frozen? ⟨w.heap.size, 1, none⟩ = false := blk_frozen hbx 1
    have hbk : ((w1.setCell ⟨w.heap.size, 0, none⟩ (.slice B1 C.rest.length d1)).setCell ⟨w.heap.size, 1, none⟩ (.slice B2 C.hol.length d2)).heap[w.heap.size]? = some (.cells #[.slice B1 C.rest.length d1, .slice B2 C.hol.length d2] 24 (0, 0)) := by simpa using blk_set (blk_set hbx 0 (.slice B1 C.rest.length d1)) 1 (.slice B2 C.hol.length d2)
    have hB : Below w.heap.size w ((w1.setCell ⟨w.heap.size, 0, none⟩ (.slice B1 C.rest.length d1)).setCell ⟨w.heap.size, 1, none⟩ (.slice B2 C.hol.length d2)) := ((below_up hBx hB1).setCell (Nat.le_refl _) _).setCell (Nat.le_refl _) _
    go_wp2_with fail
    go_step3
    clear z0 z1 f0 f1 hbx
    generalize (w1.setCell ⟨w.heap.size, 0, none⟩ (.slice B1 C.rest.length d1)).setCell ⟨w.heap.size, 1, none⟩ (.slice B2 C.hol.length d2) = W0 at hbk hB ⊢
    have a0 : W0.cell? ⟨w.heap.size, 0, none⟩ = some (.slice B1 C.rest.length d1) := (blk_cell hbk 0).trans rfl
    have a1 : W0.cell? ⟨w.heap.size, 1, none⟩ = some (.slice B2 C.hol.length d2) := (blk_cell hbk 1).trans rfl
    by_cases g0 : 0 ≤ day
    · by_cases g1 : day ≤ 1048576
      · have cI := X.day_is.calls day true W0 (by unfold X.day_is.f; rw [if_pos (by omega)]; simp [g1])
        have cR := fun W (hW : Below w.heap.size w W) => rests_any B1 B2 d1 d2 C day g0 g1 W (h.inn.below hW)
        have hsub : wrap64 (day + 1) = day + 1 := w64 (by omega) (by omega)
        cases hr : C.rests day with
        | true =>
          rw [hr] at cR
          have hall2 : Aside (∀ k, day ≤ k → k < day + 1 → C.rests k = true) := fun k h1 h2 => by
            by_cases e : k = day
            · rw [e]; exact hr
            · exact (fun k h1 h2 => by omega) k h1 (by omega)
          clear hr
          go_wp2_with fail
          refine cI.mono ?_
          rintro e w' ⟨rfl, nd, rfl⟩
          go_wp2_with fail
          refine (cR _ (pw_below_drewN hB nd)).mono ?_
          rintro e w2 ⟨rfl, hB2'⟩
          have hB2 := below_up (pw_below_drewN hB nd) hB2'
          have hbk2 := blk_below (blk_below hbk (pw_below_drewN (Below.refl W0.heap.size W0) nd)) hB2'
          go_wp2_with fail
          go_step3
          exact ⟨rfl, ⟨day + 1, _, _, _, _, _, _, _, _, _, _, _, _, _, _, _, _, _, _, _, _, rfl, by omega, by omega, by omega, hall2, hbk2, hB2⟩⟩
        | false =>
          rw [hr] at cR
          have hN : NextIs C.rests day day true := .inl ⟨rfl, by omega, g0, g1, hr, (fun k h1 h2 => by omega), by omega⟩
          clear hr
          go_wp2_with fail
          refine cI.mono ?_
          rintro e w' ⟨rfl, nd, rfl⟩
          go_wp2_with fail
          refine (cR _ (pw_below_drewN hB nd)).mono ?_
          rintro e w2 ⟨rfl, hB2'⟩
          have hB2 := below_up (pw_below_drewN hB nd) hB2'
          go_wp2_with fail
          simp only [Exit.jump]
          go_ret2
          exact ⟨day, true, rfl, hN, hB2⟩
      · have cI := X.day_is.calls day false W0 (by unfold X.day_is.f; rw [if_pos (by omega)]; simp [g1])
        have hN : NextIs C.rests day 0 false := .inr ⟨rfl, rfl, .inr fun k h1 h2 => (fun k h1 h2 => by omega) k h1 (by omega)⟩
        go_wp2_with fail
        refine cI.mono ?_
        rintro e w' ⟨rfl, nd, rfl⟩
        go_wp2_with fail
        simp only [Exit.jump]
        go_ret2
        exact ⟨0, false, rfl, hN, pw_below_drewN hB nd⟩
    · have cI := X.day_is.calls day false W0 (by unfold X.day_is.f; rw [if_neg (by omega)])
      have hN : NextIs C.rests day 0 false := .inr ⟨rfl, rfl, .inl (by omega)⟩
      go_wp2_with fail
      refine cI.mono ?_
      rintro e w' ⟨rfl, nd, rfl⟩
      go_wp2_with fail
      simp only [Exit.jump]
      go_ret2
      exact ⟨0, false, rfl, hN, pw_below_drewN hB nd⟩
  · rintro a' W0 ⟨x, u5, u6, u7, u10, u11, u12, u13, u14, u15, u16, u17, u18, u19, u20, u21, u22, u23, u24, u25, u26, rfl, hxd, hx0, hx1, hall, hbk, hB⟩
    have a0 : W0.cell? ⟨w.heap.size, 0, none⟩ = some (.slice B1 C.rest.length d1) := (blk_cell hbk 0).trans rfl
    have a1 : W0.cell? ⟨w.heap.size, 1, none⟩ = some (.slice B2 C.hol.length d2) := (blk_cell hbk 1).trans rfl
    by_cases g0 : 0 ≤ x
    · by_cases g1 : x ≤ 1048576
      · have cI := X.day_is.calls x true W0 (by unfold X.day_is.f; rw [if_pos (by omega)]; simp [g1])
        have cR := fun W (hW : Below w.heap.size w W) => rests_any B1 B2 d1 d2 C x g0 g1 W (h.inn.below hW)
        have hsub : wrap64 (x + 1) = x + 1 := w64 (by omega) (by omega)
        cases hr : C.rests x with
        | true =>
          rw [hr] at cR
          have hall2 : Aside (∀ k, day ≤ k → k < x + 1 → C.rests k = true) := fun k h1 h2 => by
            by_cases e : k = x
            · rw [e]; exact hr
            · exact hall.out k h1 (by omega)
          clear hr
          go_wp2_with fail
          refine cI.mono ?_
          rintro e w' ⟨rfl, nd, rfl⟩
          go_wp2_with fail
          refine (cR _ (pw_below_drewN hB nd)).mono ?_
          rintro e w2 ⟨rfl, hB2'⟩
          have hB2 := below_up (pw_below_drewN hB nd) hB2'
          have hbk2 := blk_below (blk_below hbk (pw_below_drewN (Below.refl W0.heap.size W0) nd)) hB2'
          go_wp2_with fail
          go_step3
          exact ⟨rfl, ⟨x + 1, _, _, _, _, _, _, _, _, _, _, _, _, _, _, _, _, _, _, _, _, rfl, by omega, by omega, by omega, hall2, hbk2, hB2⟩, by simp [intOf]; omega⟩
        | false =>
          rw [hr] at cR
          have hN : NextIs C.rests day x true := .inl ⟨rfl, by omega, g0, g1, hr, hall.out, by omega⟩
          clear hr
          go_wp2_with fail
          refine cI.mono ?_
          rintro e w' ⟨rfl, nd, rfl⟩
          go_wp2_with fail
          refine (cR _ (pw_below_drewN hB nd)).mono ?_
          rintro e w2 ⟨rfl, hB2'⟩
          have hB2 := below_up (pw_below_drewN hB nd) hB2'
          go_wp2_with fail
          simp only [Exit.jump]
          go_ret2
          exact ⟨x, true, rfl, hN, hB2⟩
      · have cI := X.day_is.calls x false W0 (by unfold X.day_is.f; rw [if_pos (by omega)]; simp [g1])
        have hN : NextIs C.rests day 0 false := .inr ⟨rfl, rfl, .inr fun k h1 h2 => hall.out k h1 (by omega)⟩
        go_wp2_with fail
        refine cI.mono ?_
        rintro e w' ⟨rfl, nd, rfl⟩
        go_wp2_with fail
        simp only [Exit.jump]
        go_ret2
        exact ⟨0, false, rfl, hN, pw_below_drewN hB nd⟩
    · exact absurd (Int.le_trans hx0 hxd) g0
end Go.Proofs.YtcmjgkmnbenniaaGreatDoor.Ext
