/- One of the texts of this claim: Sum, IterI, Cls, Apt, Tog, MayG, New, PTog. -/
import Derived.Shelf.SlIterI.Nil
import Derived.Shelf.SortM.Plain
import Derived.Shelf.SortM.SortNone
import Derived.Ground.GgzProg
import Derived.Ground.SlgmProg
import Derived.Test.YtfflbeenkfaemaaGreatDoorProg
import Derived.Deep.RegionHeld3
import Derived.Test.YtfflbeenkfaemaaGreatDoorFPackRights3
namespace Go.Proofs.YtfflbeenkfaemaaGreatDoor.Ext
open Go.RowKit Go.Proofs.YtfflbeenkfaemaaGreatDoorW.PrintWords Go.Proofs.YtfflbeenkfaemaaGreatDoorW.PrintLast
def termG (gs : List X.S30) (of : X.S30 → Int) (x : X.S55) : Int := x.f1 * of (getG gs x.f0)
def wsum (gs : List X.S30) (of : X.S30 → Int) (l : List X.S55) : Int := (l.map (termG gs of)).sum
theorem wsum_nil (gs : List X.S30) (of : X.S30 → Int) : wsum gs of [] = 0 := rfl
theorem wsum_cons (gs : List X.S30) (of : X.S30 → Int) (x : X.S55) (l : List X.S55) : wsum gs of (x :: l) = termG gs of x + wsum gs of l := by simp [wsum]
theorem wsum_append (gs : List X.S30) (of : X.S30 → Int) (l m : List X.S55) : wsum gs of (l ++ m) = wsum gs of l + wsum gs of m := by simp [wsum]
theorem wsum_next (gs : List X.S30) (of : X.S30 → Int) (l : List X.S55) (i : Nat) (h : i < l.length) : wsum gs of (l.take (i + 1)) = wsum gs of (l.take i) + termG gs of (X.rd_T55 l (i : Int)) := by
 rw [List.take_add_one, rd_at l i h, wsum_append]
 simp [wsum]
theorem knownB_cases (gs : List X.S30) (l : List X.S55) : knownB gs l = 1 ∨ knownB gs l = 4 ∨ knownB gs l = 0 := by
 unfold knownB
 split
 ·exact .inl rfl
 ·split
  ·exact .inr (.inl rfl)
  ·exact .inr (.inr rfl)
theorem getG_mem {gs : List X.S30} {x : X.S55} (h : missB gs x = false) : getG gs x.f0 ∈ gs := by
 unfold missB at h
 unfold getG at h ⊢
 cases hf : findG gs x.f0 with
 | none => rw [hf] at h; simp [zeroG] at h
 | some z => exact List.mem_of_find?_eq_some hf
theorem known_mem {gs : List X.S30} {l : List X.S55} (h : knownB gs l = 0) {x : X.S55} (hx : x ∈ l) : nameB x.f0 = true ∧ 1 ≤ x.f1 ∧ x.f1 ≤ 1048576 ∧ getG gs x.f0 ∈ gs := by
 unfold knownB at h
 split at h
 ·omega
 ·split at h
  ·omega
  ·rename_i h1 h2
   have h3 : badB x = false := by
    have := List.any_eq_false.1 (by simpa using h1) x hx
    simpa using this
   have h4 : missB gs x = false := by
    have := List.any_eq_false.1 (by simpa using h2) x hx
    simpa using this
   simp [badB, cntB] at h3
   exact ⟨h3.1, h3.2.1, h3.2.2, getG_mem h4⟩
theorem termG_range {gs : List X.S30} {of : X.S30 → Int} (hgs : ∀ z ∈ gs, 1 ≤ of z ∧ of z ≤ 1048576) {l : List X.S55} (h : knownB gs l = 0) {x : X.S55} (hx : x ∈ l) : 1 ≤ termG gs of x ∧ termG gs of x ≤ 1099511627776 := by
 obtain ⟨_, h1, h2, h3⟩ := known_mem h hx
 obtain ⟨h4, h5⟩ := hgs _ h3
 unfold termG
 constructor
 ·have := Int.mul_le_mul h1 h4 (by omega) (by omega)
  omega
 ·have := Int.mul_le_mul h2 h5 (by omega) (by omega)
  omega
theorem wsum_nonneg {gs : List X.S30} {of : X.S30 → Int} : ∀ {l : List X.S55} (_ : ∀ x ∈ l, 1 ≤ termG gs of x), 0 ≤ wsum gs of l
 | [], _ => by simp [wsum]
 | x :: l, h => by
  have h1 := h x List.mem_cons_self
  have h2 := wsum_nonneg (l := l) (fun y hy => h y (List.mem_cons_of_mem _ hy))
  rw [wsum_cons]
  omega
def sumG (gs : List X.S30) (of : X.S30 → Int) (l : List X.S55) : Int × Int := if knownB gs l = 0 then (if wsum gs of l ≤ 1099511627776 then (wsum gs of l, 0) else (0, 3)) else (0, knownB gs l)
theorem wsum_over {gs : List X.S30} {of : X.S30 → Int} {l : List X.S55} (hp : ∀ x ∈ l, 1 ≤ termG gs of x) (i : Nat) (h : ¬ wsum gs of (l.take i) ≤ 1099511627776) : ¬ wsum gs of l ≤ 1099511627776 := by
 have h1 := wsum_append gs of (l.take i) (l.drop i)
 rw [List.take_append_drop] at h1
 have h2 := wsum_nonneg (l := l.drop i) (fun y hy => hp y (List.mem_of_mem_drop hy))
 omega
set_option maxHeartbeats 4000000 in
set_option maxRecDepth 100000 in
theorem sum_any (g : Nat) (of : X.S30 → Int) (eg : ∀ args w, (callFunc g args).run Tryz.prog w = .ok (.enter g args) w) (hof : ∀ z W, Calls Tryz.prog g #[goodV z] W fun e w' => e = .returned (.int .i64 (of z)) ∧ Below W.heap.size W w')
  (t : Nat) (gs : List X.S30) (A : Option Addr) (c : Nat) (l : List X.S55) (w : World) (ht : TabIn w t gs) (hr : Kd.C X.k55 w A l.length l) (hl : l.length ≤ 1000000000) (hs : ∀ x ∈ l, x.f0.size ≤ 9223372036854775807) (hgs : ∀ z ∈ gs, 1 ≤ of z ∧ of z ≤ 1048576) :
  Calls Tryz.prog 45 #[.pointer (some ⟨t, 0, none⟩), .slice A l.length c, .func (.func g) #[] #[]] w fun e w' => e = .returned (.tuple #[.int .i64 (sumG gs of l).1, .int .i64 (sumG gs of l).2]) ∧ Below w.heap.size w w' := by
 have cK := known_any t gs A c l w ht hr hl hs
 rcases knownB_cases gs l with h | h | h
 ·have hk := Lib.hid (show sumG gs of l = (0, 1) by unfold sumG; rw [h]; rfl)
  rw [h] at cK
  clear h hof
  go_enter Tryz.func45, Tryz.ntmps45
  go_wp2_with fail
  refine cK.mono ?_
  rintro e w' ⟨rfl, hb⟩
  go_wp2_with fail
  go_ret2
  exact ⟨by rw [hk.out]; rfl, hb⟩
 ·have hk := Lib.hid (show sumG gs of l = (0, 4) by unfold sumG; rw [h]; rfl)
  rw [h] at cK
  clear h hof
  go_enter Tryz.func45, Tryz.ntmps45
  go_wp2_with fail
  refine cK.mono ?_
  rintro e w' ⟨rfl, hb⟩
  go_wp2_with fail
  go_ret2
  exact ⟨by rw [hk.out]; rfl, hb⟩
 ·have hrange := fun x (hx : x ∈ l) => termG_range hgs h hx
  have hk1 := Lib.hid (fun (h2 : wsum gs of l ≤ 1099511627776) => show sumG gs of l = (wsum gs of l, 0) by unfold sumG; rw [if_pos h, if_pos h2])
  have hk2 := Lib.hid (fun (h2 : ¬ wsum gs of l ≤ 1099511627776) => show sumG gs of l = (0, 3) by unfold sumG; rw [if_pos h, if_neg h2])
  rw [h] at cK
  clear h hgs
  go_enter Tryz.func45, Tryz.ntmps45
  go_wp2_with fail
  refine cK.mono ?_
  rintro e w1 ⟨rfl, hb1⟩
  clear cK
  go_wp2_with fail
  go_loopw [9, 20] (fun v9 v20 wr => ∃ i : Nat, ∃ n : Int, i ≤ l.length ∧ v20 = .int .i64 i ∧ v9 = .int .i64 n ∧ Aside (n = wsum gs of (l.take i)) ∧ 0 ≤ n ∧ n ≤ 1099511627776 ∧ Below w.heap.size w wr) (fun _ v20 _ => l.length - (intOf v20).toNat)
  case atStart => exact ⟨0, 0, by omega, rfl, rfl, rfl, by omega, by omega, hb1⟩
  case round =>
   obtain ⟨i, n, hi, rfl, rfl, hn, hn0, hn1, hB⟩ := hrel
   by_cases hlt : i < l.length
   ·obtain ⟨ad, eA, e0, e1⟩ := X.at_T55 hr (i : Int) (by omega) (by omega)
    subst eA
    have hz := rd_at l i hlt
    have hzm := List.mem_of_getElem? hz
    have hx := hs _ hzm
    obtain ⟨hp1, hp2⟩ := hrange _ hzm
    have hnx := wsum_next gs of l i hlt
    rw [← hn.out] at hnx
    have hov := wsum_over (fun x hx => (hrange x hx).1) (i + 1)
    clear hz hzm
    generalize X.rd_T55 l (i : Int) = z at e0 e1 hx hp1 hp2 hnx
    obtain ⟨x, m⟩ := z
    simp only [Int.toNat_natCast, termG] at e0 e1 hx hp1 hp2 hnx
    have a0 := keepw hB e0
    have a1 := keepw hB e1
    clear e0 e1
    obtain ⟨mm, hc, hm⟩ := ht.below hB
    have hc0 := (blk_cell hc 0).trans rfl
    generalize hgx : getG gs x = gx at hp1 hp2 hnx
    replace hgx := Lib.hid hgx
    have hcall := hof gx
    generalize of gx = q at hcall hp1 hp2 hnx
    generalize hpq : m * q = pq at hp1 hp2 hnx
    have hmul : IntKind.i64.wrap (m * q) = pq := by rw [hpq]; exact IntWalk.i64_in _ (by omega)
    clear hpq
    have hadd : IntKind.i64.wrap (n + pq) = wsum gs of (l.take (i + 1)) := by rw [hnx]; exact IntWalk.i64_in _ (by omega)
    generalize hsx : wsum gs of (l.take (i + 1)) = s at hadd hnx hov
    replace hsx := Lib.hid hsx
    replace hnx := Lib.hid hnx
    clear hn
    have hBL : Below w.heap.size w (wr.alloc (.cells #[.string x, .int .i64 m] 55)) := hB.alloc hB.size _
    go_wp2_with fail
    have hk0 := (blk_cell (blk_new wr (.cells #[.string x, .int .i64 m] 55)) 0).trans rfl
    have hk1' := (blk_cell (blk_new wr (.cells #[.string x, .int .i64 m] 55)) 1).trans rfl
    have hcL := keepw (below_alloc (Below.refl _ _) (.cells #[.string x, .int .i64 m] 55)) hc0
    have hmL := hm.below (below_alloc (Below.refl _ _) (.cells #[.string x, .int .i64 m] 55))
    clear hc hm hc0 a0 a1
    generalize wr.heap.size = gb at hk0 hk1' ⊢
    generalize wr.alloc (.cells #[.string x, .int .i64 m] 55) = W0 at hBL hk0 hk1' hcL hmL ⊢
    have hmD := hmL.below (below_drew (Below.refl _ _))
    have hlk := hmD.look x hx
    rw [hgx.out] at hlk
    refine start_ (n := 15) (S := fun w' => w'.cell? ⟨gb, 0, none⟩ = some (.string x) ∧ w'.cell? ⟨gb, 1, none⟩ = some (.int .i64 m) ∧ w'.cell? ⟨t, 0, none⟩ = some (.map (some mm)) ∧ (Instr.lookup 80 (.map (some mm)) (.string x) false).run Tryz.prog w' = .ok (goodV gx) w') (ds := []) (bA 15 0) (by kernel_rfl) rfl rfl ?_ (fun hHeld => ?_)
    ·exact ⟨hk0, hk1', hcL, hlk⟩
    refine pure_ (i := 0) (N := some 24) (v := ?_) (a' := ?_) (bA 15 1) rfl rfl (by kernel_rfl) (fun _ _ _ h => h) (Or.inl ⟨by rfl, ?_⟩) ?_ ?_
    rotate_left
    ·intro w'
     go_simp
     with_reducible rfl
    rotate_left
    ·simp only [Act.put, List.setIfInBounds_toArray, List.set_cons_zero, List.set_cons_succ]
     rfl
    refine pure_ (i := 1) (N := some 25) (v := ?_) (a' := ?_) (bA 15 3) rfl rfl (by kernel_rfl) (fun _ _ _ h => h) (Or.inl ⟨by rfl, ?_⟩) ?_ ?_
    rotate_left
    ·intro w'
     go_simp
     with_reducible rfl
    rotate_left
    ·simp only [Act.put, List.setIfInBounds_toArray, List.set_cons_zero, List.set_cons_succ]
     rfl
    refine take_ (i := 2) (N := some 26) (v := ?_) (a' := ?_) (bA 15 7) rfl rfl (by kernel_rfl) (fun _ _ _ h => h) (Or.inl ⟨by rfl, ?_⟩) hHeld ?_ ?_
    rotate_left
    ·rintro w' ⟨s0, s1, s2, s3⟩
     go_simp
     with_reducible rfl
    rotate_left
    ·simp only [Act.put, List.setIfInBounds_toArray, List.set_cons_zero, List.set_cons_succ]
     rfl
    refine pure_ (i := 3) (N := some 27) (v := ?_) (a' := ?_) (bA 15 15) rfl rfl (by kernel_rfl) (fun _ _ _ h => h) (Or.inl ⟨by rfl, ?_⟩) ?_ ?_
    rotate_left
    ·intro w'
     go_simp
     with_reducible rfl
    rotate_left
    ·simp only [Act.put, List.setIfInBounds_toArray, List.set_cons_zero, List.set_cons_succ]
     rfl
    refine pure_ (i := 4) (N := some 28) (v := ?_) (a' := ?_) (bA 15 31) rfl rfl (by kernel_rfl) (fun _ _ _ h => h) (Or.inl ⟨by rfl, ?_⟩) ?_ ?_
    rotate_left
    ·intro w'
     go_simp
     with_reducible rfl
    rotate_left
    ·simp only [Act.put, List.setIfInBounds_toArray, List.set_cons_zero, List.set_cons_succ]
     rfl
    refine pure_ (i := 5) (N := some 29) (v := ?_) (a' := ?_) (bA 15 63) rfl rfl (by kernel_rfl) (fun _ _ _ h => h) (Or.inl ⟨by rfl, ?_⟩) ?_ ?_
    rotate_left
    ·intro w'
     go_simp
     with_reducible rfl
    rotate_left
    ·simp only [Act.put, List.setIfInBounds_toArray, List.set_cons_zero, List.set_cons_succ]
     rfl
    refine pure_ (i := 6) (N := some 30) (v := ?_) (a' := ?_) (bA 15 127) rfl rfl (by kernel_rfl) (fun _ _ _ h => h) (Or.inl ⟨by rfl, ?_⟩) ?_ ?_
    rotate_left
    ·intro w'
     go_simp
     with_reducible rfl
    rotate_left
    ·simp only [Act.put, List.setIfInBounds_toArray, List.set_cons_zero, List.set_cons_succ]
     rfl
    refine take_ (i := 7) (N := some 31) (v := ?_) (a' := ?_) (bA 15 255) rfl rfl (by kernel_rfl) (fun _ _ _ h => h) (Or.inl ⟨by rfl, ?_⟩) hHeld ?_ ?_
    rotate_left
    ·rintro w' ⟨s0, s1, s2, s3⟩
     go_simp
     with_reducible rfl
    rotate_left
    ·simp only [Act.put, List.setIfInBounds_toArray, List.set_cons_zero, List.set_cons_succ]
     rfl
    refine pure_ (i := 8) (N := some 32) (v := ?_) (a' := ?_) (bA 15 511) rfl rfl (by kernel_rfl) (fun _ _ _ h => h) (Or.inl ⟨by rfl, ?_⟩) ?_ ?_
    rotate_left
    ·intro w'
     go_simp
     with_reducible rfl
    rotate_left
    ·simp only [Act.put, List.setIfInBounds_toArray, List.set_cons_zero, List.set_cons_succ]
     rfl
    refine take_ (i := 9) (N := some 33) (v := ?_) (a' := ?_) (bA 15 1023) rfl rfl (by kernel_rfl) (fun _ _ _ h => h) (Or.inl ⟨by rfl, ?_⟩) hHeld ?_ ?_
    rotate_left
    ·rintro w' ⟨s0, s1, s2, s3⟩
     go_simp
     with_reducible rfl
    rotate_left
    ·simp only [Act.put, List.setIfInBounds_toArray, List.set_cons_zero, List.set_cons_succ]
     rfl
    refine take_ (i := 10) (N := some 34) (v := ?_) (a' := ?_) (bA 15 2047) rfl rfl (by kernel_rfl) (fun _ _ _ h => h) (Or.inl ⟨by rfl, ?_⟩) hHeld ?_ ?_
    rotate_left
    ·rintro w' ⟨s0, s1, s2, s3⟩
     go_simp
     with_reducible rfl
    rotate_left
    ·simp only [Act.put, List.setIfInBounds_toArray, List.set_cons_zero, List.set_cons_succ]
     rfl
    refine one_ (i := 11) (N := some 35) (bA 15 4095) rfl rfl (by kernel_rfl) (by decide) (fun K hK => ?_)
    refine goesV_ eg #[goodV gx] (by rfl) rfl rfl rfl (by (try simp only [List.map_toArray, List.map_cons, List.map_nil]); first | done | rfl) ?_
    refine (hcall _).mono ?_
    rintro e w' ⟨rfl, hbc⟩
    refine ⟨_, rfl, ?_⟩
    have hBc : Below W0.heap.size W0 w' := (below_drew (Below.refl _ _)).trans (hbc.mono (by exact Nat.le_refl _))
    refine hK.out _ _ ⟨keepw hBc hk0, keepw hBc hk1', keepw hBc hcL, by have := (hmL.below hBc).look x hx; rwa [hgx.out] at this⟩ (fun hHeld => ?_)
    clear hK K
    refine norm_ (a' := ?_) ?_ ?_
    rotate_left
    ·show Act.put _ (some 35) _ = _
     simp only [Act.put, List.setIfInBounds_toArray, List.set_cons_zero, List.set_cons_succ]
     rfl
    refine pure_ (i := 12) (N := some 36) (v := ?_) (a' := ?_) (bA 15 8191) rfl rfl (by kernel_rfl) (fun _ _ _ h => h) (Or.inl ⟨by rfl, ?_⟩) ?_ ?_
    rotate_left
    ·intro w'
     go_simp
     with_reducible rfl
    rotate_left
    ·simp only [Act.put, List.setIfInBounds_toArray, List.set_cons_zero, List.set_cons_succ]
     rfl
    refine pure_ (i := 13) (N := some 37) (v := ?_) (a' := ?_) (bA 15 16383) rfl rfl (by kernel_rfl) (fun _ _ _ h => h) (Or.inl ⟨by rfl, ?_⟩) ?_ ?_
    rotate_left
    ·intro w'
     go_simp
     with_reducible rfl
    rotate_left
    ·simp only [Act.put, List.setIfInBounds_toArray, List.set_cons_zero, List.set_cons_succ]
     rfl
    refine pure_ (i := 14) (N := some 9) (v := ?_) (a' := ?_) (bA 15 32767) rfl rfl (by kernel_rfl) (fun _ _ _ h => h) (Or.inl ⟨by rfl, ?_⟩) ?_ ?_
    rotate_left
    ·intro w'
     go_simp
     with_reducible rfl
    rotate_left
    ·simp only [Act.put, List.setIfInBounds_toArray, List.set_cons_zero, List.set_cons_succ]
     rfl
    refine done_ (by kernel_rfl) ?_
    have hBe := below_step hBL hBc
    clear hHeld hBc hbc hlk hmD hmL hcL hcall hgx
    by_cases hgt : s ≤ 1099511627776
    ·have hgd : decide (1099511627776 < s) = false := by simpa using hgt
     go_wp2_with fail
     go_roundw
     case measure => simp [intOf]; omega
     case rel => exact ⟨i + 1, s, by omega, by go_num, rfl, hsx.out.symm, by have := hnx.out; omega, hgt, hBe⟩
    ·have hgd : decide (1099511627776 < s) = true := by simpa using hgt
     have hk := Lib.hid (hk2.out (by have := hov (by omega); omega))
     go_wp2_with fail
     go_ret2
     exact ⟨by rw [hk.out]; rfl, hBe⟩
   ·have e : i = l.length := by omega
    subst e
    have hk := Lib.hid (hk1.out (by have := hn.out; rw [List.take_length] at this; omega))
    have hn2 : Hid (n = wsum gs of l) := Lib.hid (by have := hn.out; rwa [List.take_length] at this)
    clear hn
    go_wp2_with fail
    go_ret2
    exact ⟨by rw [hk.out, ← hn2.out]; rfl, hB⟩
theorem weigh_any (z : X.S30) (W : World) : Calls Tryz.prog 46 #[goodV z] W fun e w' => e = .returned (.int .i64 z.f2) ∧ Below W.heap.size W w' := by
 unfold goodV
 go_enter Tryz.func46, Tryz.ntmps46
 go_wp2_with fail
 go_ret
 exact ⟨rfl, below_alloc (Below.refl _ _) _⟩
theorem room_any (z : X.S30) (W : World) : Calls Tryz.prog 82 #[goodV z] W fun e w' => e = .returned (.int .i64 z.f3) ∧ Below W.heap.size W w' := by
 unfold goodV
 go_enter Tryz.func82, Tryz.ntmps82
 go_wp2_with fail
 go_ret
 exact ⟨rfl, below_alloc (Below.refl _ _) _⟩
/-- The goods of a table, as goods.New lets them in. -/
def GoodsOk (gs : List X.S30) : Prop := ∀ z ∈ gs, nameB z.f0 = true ∧ 0 ≤ z.f1 ∧ z.f1 ≤ 9 ∧ 1 ≤ z.f2 ∧ z.f2 ≤ 1048576 ∧ 1 ≤ z.f3 ∧ z.f3 ≤ 1048576
theorem Weight_any (t : Nat) (gs : List X.S30) (A : Option Addr) (c : Nat) (l : List X.S55) (w : World) (ht : TabIn w t gs) (hr : Kd.C X.k55 w A l.length l) (hl : l.length ≤ 1000000000) (hs : ∀ x ∈ l, x.f0.size ≤ 9223372036854775807) (hgs : GoodsOk gs) :
  Calls Tryz.prog 15 #[.pointer (some ⟨t, 0, none⟩), .slice A l.length c] w fun e w' => e = .returned (.tuple #[.int .i64 (sumG gs X.S30.f2 l).1, .int .i64 (sumG gs X.S30.f2 l).2]) ∧ Below w.heap.size w w' := by
 have cS := sum_any _ X.S30.f2 (enters_of Tryz.func46 (by kernel_rfl) rfl) weigh_any t gs A c l w ht hr hl hs (fun z hz => ⟨(hgs z hz).2.2.2.1, (hgs z hz).2.2.2.2.1⟩)
 go_enter Tryz.func15, Tryz.ntmps15
 go_wp2_with fail
 refine cS.mono ?_
 rintro e w' ⟨rfl, hb⟩
 go_wp2_with fail
 go_ret2
 exact ⟨rfl, hb⟩
theorem Volume_any (t : Nat) (gs : List X.S30) (A : Option Addr) (c : Nat) (l : List X.S55) (w : World) (ht : TabIn w t gs) (hr : Kd.C X.k55 w A l.length l) (hl : l.length ≤ 1000000000) (hs : ∀ x ∈ l, x.f0.size ≤ 9223372036854775807) (hgs : GoodsOk gs) :
  Calls Tryz.prog 43 #[.pointer (some ⟨t, 0, none⟩), .slice A l.length c] w fun e w' => e = .returned (.tuple #[.int .i64 (sumG gs X.S30.f3 l).1, .int .i64 (sumG gs X.S30.f3 l).2]) ∧ Below w.heap.size w w' := by
 have cS := sum_any _ X.S30.f3 (enters_of Tryz.func82 (by kernel_rfl) rfl) room_any t gs A c l w ht hr hl hs (fun z hz => ⟨(hgs z hz).2.2.2.2.2.1, (hgs z hz).2.2.2.2.2.2⟩)
 go_enter Tryz.func43, Tryz.ntmps43
 go_wp2_with fail
 refine cS.mono ?_
 rintro e w' ⟨rfl, hb⟩
 go_wp2_with fail
 go_ret2
 exact ⟨rfl, hb⟩
end Go.Proofs.YtfflbeenkfaemaaGreatDoor.Ext
namespace Go.Proofs
open Go.Shelf
def Tryz.keys91_ren : Go.Shelf.Ren := ⟨fun | 7 => 91 | 10 => 123 | n => n, fun | 23 => 133 | 26 => 3 | 3 => 4 | 28 => 136 | 0 => 0 | 27 => 135 | 33 => 99 | 4 => 4 | n => n, fun | n => n⟩
theorem Tryz.keys91 : Go.Proofs.SlLaysZI.n7 Tryz.prog Tryz.keys91_ren := {
 mixed := by kernel_rfl
 f7 := ⟨Tryz.f91.name, by decide, Tryz.func91.trans (congrArg some (by kernel_rfl))⟩
 f10 := ⟨Tryz.f123.name, by decide, Tryz.func123.trans (congrArg some (by kernel_rfl))⟩
 t0 := Tryz.underlying0
 a0 := Tryz.isAgg0
 z0 := Tryz.sizeOf0
 v0 := Tryz.zeroValue0
 t4 := Tryz.underlying4
 a4 := Tryz.isAgg4
 z4 := Tryz.sizeOf4
 v4 := Tryz.zeroValue4
 t23 := Tryz.underlying133
 a23 := Tryz.isAgg133
 z23 := Tryz.sizeOf133
 v23 := Tryz.zeroValue133
 t26 := Tryz.underlying3
 a26 := Tryz.isAgg3
 z26 := Tryz.sizeOf3
 v26 := Tryz.zeroValue3
 t27 := Tryz.underlying135
 a27 := Tryz.isAgg135
 z27 := Tryz.sizeOf135
 v27 := Tryz.zeroValue135
 t28 := Tryz.underlying136
 a28 := Tryz.isAgg136
 z28 := Tryz.sizeOf136
 v28 := Tryz.zeroValue136
 t33 := Tryz.underlying99
 a33 := Tryz.isAgg99
 z33 := Tryz.sizeOf99
 v33 := Tryz.zeroValue99 }
def Tryz.sorted90_ren : Go.Shelf.Ren := ⟨fun | 6 => 90 | 8 => 121 | 9 => 122 | 11 => 151 | 13 => 110 | 12 => 152 | 23 => 140 | 24 => 131 | 14 => 174 | 15 => 175 | 16 => 176 | 17 => 177 | 18 => 178 | 19 => 179 | 20 => 180 | 21 => 181 | 22 => 182 | 25 => 194 | 26 => 164 | 27 => 165 | 28 => 195 | 29 => 196 | 30 => 112 | 31 => 203 | n => n, fun | 26 => 3 | 28 => 136 | 24 => 95 | 0 => 0 | 3 => 3 | 37 => 145 | 48 => 174 | 50 => 114 | 4 => 4 | 40 => 168 | 39 => 167 | 45 => 128 | 5 => 5 | 9 => 9 | 51 => 196 | 55 => 200 | 57 => 218 | 58 => 47 | 33 => 99 | n => n, fun | n => n⟩
theorem Tryz.sorted90 : Go.Proofs.SlLaysZI.n6 Tryz.prog Tryz.sorted90_ren := {
 mixed := by kernel_rfl
 f6 := ⟨Tryz.f90.name, by decide, Tryz.func90.trans (congrArg some (by kernel_rfl))⟩
 f8 := ⟨Tryz.f121.name, by decide, Tryz.func121.trans (congrArg some (by kernel_rfl))⟩
 f11 := ⟨Tryz.f151.name, by decide, Tryz.func151.trans (congrArg some (by kernel_rfl))⟩
 t0 := Tryz.underlying0
 a0 := Tryz.isAgg0
 z0 := Tryz.sizeOf0
 v0 := Tryz.zeroValue0
 t24 := Tryz.underlying95
 a24 := Tryz.isAgg95
 z24 := Tryz.sizeOf95
 v24 := Tryz.zeroValue95
 t26 := Tryz.underlying3
 a26 := Tryz.isAgg3
 z26 := Tryz.sizeOf3
 v26 := Tryz.zeroValue3
 t28 := Tryz.underlying136
 a28 := Tryz.isAgg136
 z28 := Tryz.sizeOf136
 v28 := Tryz.zeroValue136
 i26 := by kernel_rfl }
def Tryz.sort122_ren : Go.Shelf.Ren := ⟨fun | 5 => 122 | 8 => 110 | 7 => 152 | 19 => 140 | 20 => 131 | 10 => 174 | 11 => 175 | 12 => 176 | 13 => 177 | 14 => 178 | 15 => 179 | 16 => 180 | 17 => 181 | 18 => 182 | 30 => 194 | 31 => 164 | 32 => 165 | 33 => 195 | 34 => 196 | 35 => 112 | 40 => 203 | n => n, fun | 23 => 95 | 25 => 3 | 3 => 3 | 32 => 145 | 22 => 95 | 0 => 0 | 44 => 174 | 46 => 114 | 4 => 4 | 36 => 168 | 35 => 167 | 41 => 128 | 5 => 5 | 9 => 9 | 53 => 196 | 57 => 200 | 63 => 218 | 64 => 47 | n => n, fun | n => n⟩
theorem Tryz.sort122 : Go.Proofs.SlLaysM.n5 Tryz.prog Tryz.sort122_ren := {
 mixed := by kernel_rfl
 f5 := ⟨Tryz.f122.name, by decide, Tryz.func122.trans (congrArg some (by kernel_rfl))⟩
 f7 := ⟨Tryz.f152.name, by decide, Tryz.func152.trans (congrArg some (by kernel_rfl))⟩
 f8 := Tryz.func110.trans (congrArg some (by kernel_rfl))
 f10 := ⟨Tryz.f174.name, by decide, Tryz.func174.trans (congrArg some (by kernel_rfl))⟩
 f11 := ⟨Tryz.f175.name, by decide, Tryz.func175.trans (congrArg some (by kernel_rfl))⟩
 f12 := ⟨Tryz.f176.name, by decide, Tryz.func176.trans (congrArg some (by kernel_rfl))⟩
 f13 := ⟨Tryz.f177.name, by decide, Tryz.func177.trans (congrArg some (by kernel_rfl))⟩
 f14 := ⟨Tryz.f178.name, by decide, Tryz.func178.trans (congrArg some (by kernel_rfl))⟩
 f15 := ⟨Tryz.f179.name, by decide, Tryz.func179.trans (congrArg some (by kernel_rfl))⟩
 f16 := ⟨Tryz.f180.name, by decide, Tryz.func180.trans (congrArg some (by kernel_rfl))⟩
 f17 := ⟨Tryz.f181.name, by decide, Tryz.func181.trans (congrArg some (by kernel_rfl))⟩
 f18 := ⟨Tryz.f182.name, by decide, Tryz.func182.trans (congrArg some (by kernel_rfl))⟩
 f19 := Tryz.func140.trans (congrArg some (by kernel_rfl))
 f20 := Tryz.func131.trans (congrArg some (by kernel_rfl))
 f30 := ⟨Tryz.f194.name, by decide, Tryz.func194.trans (congrArg some (by kernel_rfl))⟩
 f31 := Tryz.func164.trans (congrArg some (by kernel_rfl))
 f32 := Tryz.func165.trans (congrArg some (by kernel_rfl))
 f33 := ⟨Tryz.f195.name, by decide, Tryz.func195.trans (congrArg some (by kernel_rfl))⟩
 f34 := ⟨Tryz.f196.name, by decide, Tryz.func196.trans (congrArg some (by kernel_rfl))⟩
 f35 := ⟨Tryz.f112.name, by decide, Tryz.func112.trans (congrArg some (by kernel_rfl))⟩
 f40 := ⟨Tryz.f203.name, by decide, Tryz.func203.trans (congrArg some (by kernel_rfl))⟩
 t0 := Tryz.underlying0
 a0 := Tryz.isAgg0
 z0 := Tryz.sizeOf0
 v0 := Tryz.zeroValue0
 t3 := Tryz.underlying3
 a3 := Tryz.isAgg3
 z3 := Tryz.sizeOf3
 v3 := Tryz.zeroValue3
 t4 := Tryz.underlying4
 a4 := Tryz.isAgg4
 z4 := Tryz.sizeOf4
 v4 := Tryz.zeroValue4
 t5 := Tryz.underlying5
 a5 := Tryz.isAgg5
 z5 := Tryz.sizeOf5
 v5 := Tryz.zeroValue5
 t9 := Tryz.underlying9
 a9 := Tryz.isAgg9
 z9 := Tryz.sizeOf9
 v9 := Tryz.zeroValue9
 t22 := Tryz.underlying95
 a22 := Tryz.isAgg95
 z22 := Tryz.sizeOf95
 v22 := Tryz.zeroValue95
 t23 := Tryz.underlying95
 a23 := Tryz.isAgg95
 z23 := Tryz.sizeOf95
 v23 := Tryz.zeroValue95
 t25 := Tryz.underlying3
 a25 := Tryz.isAgg3
 z25 := Tryz.sizeOf3
 v25 := Tryz.zeroValue3
 t32 := Tryz.underlying145
 a32 := Tryz.isAgg145
 z32 := Tryz.sizeOf145
 v32 := Tryz.zeroValue145
 t35 := Tryz.underlying167
 a35 := Tryz.isAgg167
 z35 := Tryz.sizeOf167
 v35 := Tryz.zeroValue167
 t36 := Tryz.underlying168
 a36 := Tryz.isAgg168
 z36 := Tryz.sizeOf168
 v36 := Tryz.zeroValue168
 t41 := Tryz.underlying128
 a41 := Tryz.isAgg128
 z41 := Tryz.sizeOf128
 v41 := Tryz.zeroValue128
 t44 := Tryz.underlying174
 a44 := Tryz.isAgg174
 z44 := Tryz.sizeOf174
 v44 := Tryz.zeroValue174
 t46 := Tryz.underlying114
 a46 := Tryz.isAgg114
 z46 := Tryz.sizeOf114
 v46 := Tryz.zeroValue114
 t53 := Tryz.underlying196
 a53 := Tryz.isAgg196
 z53 := Tryz.sizeOf196
 v53 := Tryz.zeroValue196
 t57 := Tryz.underlying200
 a57 := Tryz.isAgg200
 z57 := Tryz.sizeOf200
 v57 := Tryz.zeroValue200
 t63 := Tryz.underlying218
 a63 := Tryz.isAgg218
 z63 := Tryz.sizeOf218
 v63 := Tryz.zeroValue218
 t64 := Tryz.underlying47
 a64 := Tryz.isAgg47
 z64 := Tryz.sizeOf47
 v64 := Tryz.zeroValue47 }
open Go.RowKit Go.Maps Go.Sort Go.Shelf
theorem Tryz.sorts90 (m : Nat) : AnyZI.SortsIn Tryz.prog Tryz.sorted90_ren Fence.wide m :=
 ⟨fun blk off cap ss W hH hblk hsz => callsIn_wide.2 (AnyM.slices_Sort_int Tryz.sort122 blk off cap ss W hH hblk hsz),
  fun p cap W => callsIn_wide.2 (AnyM.slices_Sort_int_none Tryz.sort122 p cap W)⟩
theorem Tryz.maps_Keys_91 (mb : Option Nat) (W : World) : CallsIn Fence.wide 5 Tryz.prog 91 #[.map mb] W fun e w' => e = .returned (.func (.func 123) #[] #[.pointer (some ⟨W.heap.size, 0, none⟩)]) ∧ w' = W.alloc (.cells #[.map mb] 133) :=
 AnyZI.keys_in Tryz.keys91 Fence.wide 5 trivial rfl mb W
set_option maxHeartbeats 1000000 in
theorem Tryz.slices_Sorted_keys_90_91 {H : Type} (b nn : Nat) (D0 : DataW H) (R : Value → Option (DataW H × List MemPlace)) (w : World) (hown : w.ownsMap Tryz.prog 3 R b nn D0) (hmax : Maps.size D0 ≤ maxLen) (hbytes : Maps.size D0 * 8 ≤ 140737488355328) :
  CallsIn Fence.wide 5 Tryz.prog 90 #[.func (.func 123) #[] #[.pointer (some ⟨w.heap.size, 0, none⟩)]] (w.alloc (.cells #[.map (some b)] 133)) fun e w' => ∃ (v : Value) (ss : List Int), e = .returned v ∧ ss.Perm (intKeys D0) ∧
   w'.ownsRow (w.alloc (.cells #[.map (some b)] 133)).heap.size 3 1 v ss.length ((ss.mergeSort (fun x y => decide (x ≤ y))).map encZ) ∧ (v = .slice none 0 0 ↔ ss = []) ∧ Below (w.alloc (.cells #[.map (some b)] 133)).heap.size (w.alloc (.cells #[.map (some b)] 133)) w' := by
 have hbl := hown.lt
 have hseq : SeqGives Fence.wide 2 Tryz.prog 123 #[.pointer (some ⟨w.heap.size, 0, none⟩)] encZ (fun ss => ss.Perm (intKeys D0)) (Maps.size D0) (w.alloc (.cells #[.map (some b)] 133)) :=
  AnyZI.keys_gives (ρ := Tryz.keys91_ren) { Tryz.keys91 with } Fence.wide _ trivial rfl (by omega) w.heap.size b nn D0 _ (by simp) (by simp) (by
   obtain ⟨es, clock, hb, Ft, hs, hD⟩ := hown
   exact ⟨es, clock, (Below.heap_alloc _ _ b hbl).trans hb, Ft, hs, hD⟩)
 exact AnyZI.sorted_in Tryz.sorted90 Fence.wide 5 trivial trivial trivial trivial rfl (by omega) (Tryz.sorts90 _) (enters_of Tryz.func122 (by kernel_rfl) rfl) 123 #[.pointer (some ⟨w.heap.size, 0, none⟩)] trivial (enters_of Tryz.func123 (by kernel_rfl) rfl) _ _ hmax hbytes _ hseq
end Go.Proofs
namespace Go.Proofs.YtfflbeenkfaemaaGreatDoor.Ext
open Go.RowKit Go.Maps Go.WideMaps Go.ChangeMaps Go.Proofs.YtfflbeenkfaemaaGreatDoorW.PrintWords Go.Proofs.YtfflbeenkfaemaaGreatDoorW.PrintLast
def clsStep (gs : List X.S30) (D : DataW Unit) (x : X.S55) : DataW Unit := if hasG gs x.f0 then D.put (.int .i64 (getG gs x.f0).f1) (.lit (.bool true)) else D
def clsD (gs : List X.S30) (l : List X.S55) : DataW Unit := l.foldl (clsStep gs) (.map [])
theorem clsD_next (gs : List X.S30) (l : List X.S55) (i : Nat) (h : i < l.length) : clsD gs (l.take (i + 1)) = clsStep gs (clsD gs (l.take i)) (X.rd_T55 l (i : Int)) := by
 unfold clsD
 rw [List.take_add_one, rd_at l i h, List.foldl_append]
 rfl
theorem lawI : Keyed Tryz.prog 3 := int_keyed Tryz.underlying3
/-- A map whose keys are whole numbers, none twice. -/
def KeyInt (D : DataW Unit) : Prop := ∃ es, D = .map es ∧ es.Pairwise (fun p q => p.1 ≠ q.1) ∧ ∀ p ∈ es, ∃ x, p.1 = .int .i64 x
theorem KeyInt.nil : KeyInt (.map []) := ⟨[], rfl, List.Pairwise.nil, fun _ h => by cases h⟩
theorem KeyInt.put {D : DataW Unit} (h : KeyInt D) (s : Int) (u : DataW Unit) : KeyInt (D.put (.int .i64 s) u) := by
 obtain ⟨es, rfl, hp, hk⟩ := h
 obtain ⟨es', he, hp'⟩ := Tidy.put ⟨es, rfl, hp⟩ (k := .int .i64 s) trivial u
 refine ⟨es', he, hp', fun p hp2 => ?_⟩
 have e2 : (DataW.map es).put (Lit.int .i64 s) u = .map (DataW.insert (Lit.int .i64 s, u) (es.filter fun p => !p.1.sameKey (Lit.int .i64 s))) := rfl
 rw [e2] at he
 injection he with he
 subst he
 rcases Go.ChangeMaps.mem_insert_iff.1 hp2 with rfl | h2
 ·exact ⟨_, rfl⟩
 ·exact hk _ (List.mem_filter.1 h2).1
theorem KeyInt.has {D : DataW Unit} (h : KeyInt D) (x : Int) : x ∈ Go.intKeys D ↔ Go.Maps.has D (.int .i64 x) = true := by
 obtain ⟨es, rfl, _, hk⟩ := h
 rw [has_eq, List.any_eq_true]
 show x ∈ es.map (fun p => Go.intOf p.1) ↔ _
 rw [List.mem_map]
 constructor
 ·rintro ⟨p, hp', rfl⟩
  obtain ⟨a, ha⟩ := hk p hp'
  exact ⟨p, hp', by rw [ha]; simp [Lit.sameKey, Go.intOf]⟩
 ·rintro ⟨p, hp', hs⟩
  obtain ⟨a, ha⟩ := hk p hp'
  rw [ha] at hs
  exact ⟨p, hp', by rw [ha]; simpa [Lit.sameKey, Go.intOf] using hs⟩
theorem has_putI {D : DataW Unit} (h : KeyInt D) (s x : Int) (u : DataW Unit) : Go.Maps.has (D.put (.int .i64 s) u) (.int .i64 x) = true ↔ x = s ∨ Go.Maps.has D (.int .i64 x) = true := by
 obtain ⟨es, he, _, _⟩ := h
 by_cases e : x = s
 ·subst e
  rw [has_put_same (k := .int .i64 x) ⟨es, he⟩ trivial u]
  simp
 ·rw [has_put_other (fun q => e (by injection q))]
  simp [e]
theorem clsD_key (gs : List X.S30) (l : List X.S55) : KeyInt (clsD gs l) := by
 have : ∀ (l : List X.S55) (D : DataW Unit), KeyInt D → KeyInt (l.foldl (clsStep gs) D) := by
  intro l
  induction l with
  | nil => exact fun D h => h
  | cons x l ih =>
   intro D h
   refine ih _ ?_
   unfold clsStep
   split
   ·exact h.put _ _
   ·exact h
 exact this l _ KeyInt.nil
theorem clsD_has (gs : List X.S30) (l : List X.S55) (c : Int) : Go.Maps.has (clsD gs l) (.int .i64 c) = true ↔ ∃ x ∈ l, hasG gs x.f0 = true ∧ (getG gs x.f0).f1 = c := by
 have : ∀ (l : List X.S55) (D : DataW Unit), KeyInt D → (Go.Maps.has (l.foldl (clsStep gs) D) (.int .i64 c) = true ↔ (Go.Maps.has D (.int .i64 c) = true ∨ ∃ x ∈ l, hasG gs x.f0 = true ∧ (getG gs x.f0).f1 = c)) := by
  intro l
  induction l with
  | nil => intro D h; simp
  | cons x l ih =>
   intro D h
   have hs : KeyInt (clsStep gs D x) := by
    unfold clsStep
    split
    ·exact h.put _ _
    ·exact h
   rw [List.foldl_cons, ih _ hs]
   have e : Go.Maps.has (clsStep gs D x) (.int .i64 c) = true ↔ (Go.Maps.has D (.int .i64 c) = true ∨ (hasG gs x.f0 = true ∧ (getG gs x.f0).f1 = c)) := by
    unfold clsStep
    split
    ·rename_i hx
     rw [has_putI h]
     constructor
     ·rintro (h1 | h1)
      ·exact .inr ⟨hx, h1.symm⟩
      ·exact .inl h1
     ·rintro (h1 | ⟨_, h1⟩)
      ·exact .inr h1
      ·exact .inl h1.symm
    ·rename_i hx
     simp [hx]
   rw [e]
   simp only [List.mem_cons, exists_eq_or_imp]
   exact or_assoc
 rw [clsD, this l _ KeyInt.nil]
 constructor
 ·rintro (h | h)
  ·cases h
  ·exact h
 ·exact .inr
theorem clsD_size (gs : List X.S30) (l : List X.S55) : Maps.size (clsD gs l) ≤ l.length := by
 have : ∀ (l : List X.S55) (D : DataW Unit), Tidy D → Maps.size (l.foldl (clsStep gs) D) ≤ Maps.size D + l.length := by
  intro l
  induction l with
  | nil => intro D h; simp
  | cons x l ih =>
   intro D h
   have hs : Tidy (clsStep gs D x) ∧ Maps.size (clsStep gs D x) ≤ Maps.size D + 1 := by
    unfold clsStep
    split
    ·refine ⟨h.put (k := .int .i64 _) trivial _, ?_⟩
     rw [size_put h]
     split <;> omega
    ·exact ⟨h, by omega⟩
   have := ih _ hs.1
   simp only [List.foldl_cons, List.length_cons]
   omega
 have h := this l (.map []) ⟨[], rfl, List.Pairwise.nil⟩
 have e : Maps.size (.map [] : DataW Unit) = 0 := rfl
 rw [e, Nat.zero_add] at h
 exact h
theorem intKeys_length {D : DataW Unit} (h : KeyInt D) : (Go.intKeys D).length = Maps.size D := by
 obtain ⟨es, rfl, _⟩ := h
 simp [Go.intKeys, Maps.size]
set_option maxHeartbeats 4000000 in
set_option maxRecDepth 100000 in
theorem Classes_any (t : Nat) (gs : List X.S30) (A : Option Addr) (c : Nat) (l : List X.S55) (w : World) (ht : TabIn w t gs) (hr : Kd.C X.k55 w A l.length l) (hl : l.length ≤ 1000000) (hs : ∀ x ∈ l, x.f0.size ≤ 9223372036854775807) (hgs : ∀ z ∈ gs, 0 ≤ z.f1 ∧ z.f1 ≤ 9) :
  Calls Tryz.prog 52 #[.pointer (some ⟨t, 0, none⟩), .slice A l.length c] w fun e w' => ∃ (v : Value) (ks : List Int), e = .returned v ∧ Kd.R (Kd.int .i64) 3 w' w.heap.size (fun _ => True) v ks ∧ ks.length ≤ l.length ∧ (∀ k, k ∈ ks ↔ ∃ x ∈ l, hasG gs x.f0 = true ∧ (getG gs x.f0).f1 = k) ∧ Below w.heap.size w w' := by
 have hmm := @run_makeMap Tryz.prog
 go_enter Tryz.func52, Tryz.ntmps52
 go_wp2_with fail
 go_loopw [13] (fun v13 wr => ∃ i : Nat, i ≤ l.length ∧ v13 = .int .i64 i ∧ wr.ownsMap Tryz.prog 3 (plainElem (H := Unit) Tryz.prog 4) w.heap.size i (clsD gs (l.take i)) ∧ Below w.heap.size w wr) (fun v13 _ => l.length - (intOf v13).toNat)
 case atStart => exact ⟨0, by omega, rfl, World.ownsMap_made _ _ _ _, (Below.refl _ _).alloc (Nat.le_refl _) _⟩
 case round =>
  obtain ⟨i, hi, rfl, hown, hB⟩ := hrel
  by_cases hlt : i < l.length
  ·obtain ⟨ad, eA, e0, e1⟩ := X.at_T55 hr (i : Int) (by omega) (by omega)
   subst eA
   have hz := rd_at l i hlt
   have hx := hs _ (List.mem_of_getElem? hz)
   have hnext := Lib.hid (clsD_next gs l i hlt)
   clear hz
   generalize X.rd_T55 l (i : Int) = z at e0 e1 hx hnext
   obtain ⟨x, m⟩ := z
   simp only [Int.toNat_natCast] at e0 e1 hx
   have a0 := keepw hB e0
   have a1 := keepw hB e1
   clear e0 e1
   obtain ⟨mm, hc, hm⟩ := ht.below hB
   have hc0 := (blk_cell hc 0).trans rfl
   have hBL : Below w.heap.size w (wr.alloc (.cells #[.string x, .int .i64 m] 55)) := hB.alloc hB.size _
   go_wp2_with fail
   have hk0 := (blk_cell (blk_new wr (.cells #[.string x, .int .i64 m] 55)) 0).trans rfl
   have hcL := keepw (below_alloc (Below.refl _ _) (.cells #[.string x, .int .i64 m] 55)) hc0
   have hmL := hm.below (below_alloc (Below.refl _ _) (.cells #[.string x, .int .i64 m] 55))
   have hownL := hown.alloc (.cells #[.string x, .int .i64 m] 55)
   clear hc hm hc0 a0 a1
   generalize wr.heap.size = gb at hk0 ⊢
   generalize wr.alloc (.cells #[.string x, .int .i64 m] 55) = W0 at hBL hk0 hcL hmL hownL ⊢
   obtain ⟨hb, hhb⟩ : ∃ hb, hb = hasG gs x := ⟨_, rfl⟩
   obtain ⟨gx, hgx⟩ : ∃ gx, gx = getG gs x := ⟨_, rfl⟩
   have hlk : ∀ W, Below W0.heap.size W0 W → (Instr.lookup 80 (.map (some mm)) (.string x) true).run Tryz.prog W = .ok (.tuple #[goodV gx, .bool hb]) W := fun W hW => by
    rw [hhb, hgx]
    exact (hmL.below hW).look_ok x hx
   obtain ⟨g0, g1, g2, g3⟩ := gx
   unfold goodV at hlk
   simp only at hlk
   replace hgx := Lib.hid hgx
   replace hhb := Lib.hid hhb
   replace hlk := Lib.hid hlk
   go_region_held3 (fun w' => w'.cell? ⟨gb, 0, none⟩ = some (.string x) ∧ w'.cell? ⟨t, 0, none⟩ = some (.map (some mm)) ∧ (Instr.lookup 80 (.map (some mm)) (.string x) true).run Tryz.prog w' = .ok (.tuple #[.agg #[.string g0, .int .i64 g1, .int .i64 g2, .int .i64 g3], .bool hb]) w') (refine ⟨?_, ?_, ?_⟩ <;> first | exact hlk.out _ (by first | exact below_drew (Below.refl _ _) | exact below_alloc (below_drew (Below.refl _ _)) _) | go_keep) (fail)
   all_goals
    have hU : Below W0.heap.size W0 (W0.alloc (.cells #[.string g0, .int .i64 g1, .int .i64 g2, .int .i64 g3] 30)).drew := below_drew (below_alloc (Below.refl _ _) _)
    have hBe := below_step hBL hU
    have hown2 := own_below hownL hU
    have hc1 : (W0.alloc (.cells #[.string g0, .int .i64 g1, .int .i64 g2, .int .i64 g3] 30)).drew.cell? ⟨W0.heap.size, 1, none⟩ = some (.int .i64 g1) := (blk_cell (blk_drew (blk_new W0 _)) 1).trans rfl
    clear hlk hcL hmL hownL hk0 hU
    generalize (W0.alloc (.cells #[.string g0, .int .i64 g1, .int .i64 g2, .int .i64 g3] 30)).drew = W2 at hBe hown2 hc1 ⊢
    generalize W0.heap.size = gg at hc1 ⊢
    cases hb with
    | true =>
     have hg1 : (Lit.int .i64 g1).wf = true := by
      have h1 : getG gs x ∈ gs := by
       have h2 := hhb.out
       unfold hasG at h2
       unfold getG
       cases hf : findG gs x with
       | none => rw [hf] at h2; cases h2
       | some z => exact List.mem_of_find?_eq_some hf
      have h3 := hgs _ h1
      rw [← hgx.out] at h3
      obtain ⟨h4, h5⟩ := h3
      simp only at h4 h5
      exact WalkArith.wf_i64 (by omega)
     have hkI : keyOf Tryz.prog 3 (.int .i64 g1) = some (.int .i64 g1) := keyOf_int_mk Tryz.underlying3 hg1
     have hst : Hid (clsD gs (l.take (i + 1)) = (clsD gs (l.take i)).put (.int .i64 g1) (.lit (.bool true))) := Lib.hid (by
      rw [hnext.out]; show (if hasG gs x = true then _ else _) = _; rw [if_pos hhb.out.symm, ← hgx.out])
     go_wp2_with ((at_mapUpdate; refine wpList_mapUpdate_own _ rfl _ _ _ 133 rfl 3 4 lawI Tryz.underlying133 _ w.heap.size i _ rfl hown2 (by unfold maxLen; omega) _ _ _ rfl rfl hkI _ [] (plainElem_bool Tryz.underlying4 true) ?_))
     intro w3 hown3 hgr3
     have hB3 : Below w.heap.size w w3 := hBe.grown hgr3 hBe.size (fun j hj => by cases hj; exact Nat.le_refl _)
     go_wp2_with fail
     refine ⟨⟨i + 1, by omega, by simp, ?_, hB3⟩, by simp [intOf]; omega⟩
     rw [hst.out]
     exact hown3
    | false =>
     have hst : Hid (clsD gs (l.take (i + 1)) = clsD gs (l.take i)) := Lib.hid (by
      rw [hnext.out]; show (if hasG gs x = true then _ else _) = _; rw [if_neg (by rw [← hhb.out]; simp)])
     go_wp2_with fail
     refine ⟨⟨i + 1, by omega, by simp, ?_, hBe⟩, by simp [intOf]; omega⟩
     rw [hst.out]
     exact hown2.mono (by omega)
  ·have e : i = l.length := by omega
   subst e
   rw [List.take_length] at hown
   have cK := fun W => callsIn_wide.1 (Tryz.maps_Keys_91 (some w.heap.size) W)
   have hz := hown.size_le
   have cS := callsIn_wide.1 (Tryz.slices_Sorted_keys_90_91 w.heap.size l.length (clsD gs l) _ wr hown (by unfold maxLen; omega) (by omega))
   go_wp2_with fail
   refine (cK _).mono ?_
   rintro e w' ⟨rfl, rfl⟩
   go_wp2_with fail
   refine cS.mono ?_
   rintro e w5 ⟨v, ss, rfl, hS, hrow, hnil, hB5⟩
   go_wp2_with fail
   go_ret
   have hB15 : Below wr.heap.size wr w5 := ((Below.refl _ _).alloc (Nat.le_refl _) _).trans (hB5.mono (by simp))
   have hperm := List.mergeSort_perm ss (fun x y => decide (x ≤ y))
   have hlen := hperm.length_eq
   rw [← hlen] at hrow
   have hR : Kd.R (Kd.int .i64) 3 w5 _ (fun _ => True) v (ss.mergeSort (fun x y => decide (x ≤ y))) := Kd.R_of_own hrow (fun _ _ => trivial)
   refine ⟨v, _, rfl, Kd.R_lower hR (by have := hB.size; simp; omega), ?_, fun k => ?_, below_step hB hB15⟩
   ·rw [hlen, hS.length_eq, intKeys_length (clsD_key gs l)]
    exact clsD_size gs l
   ·rw [hperm.mem_iff, hS.mem_iff, (clsD_key gs l).has, clsD_has]
end Go.Proofs.YtfflbeenkfaemaaGreatDoor.Ext
namespace Go.Proofs.YtfflbeenkfaemaaGreatDoor.Ext
open Go.RowKit Go.Proofs.YtfflbeenkfaemaaGreatDoorW.PrintWords Go.Proofs.YtfflbeenkfaemaaGreatDoorW.PrintLast Go.Proofs.YtfflbeenkfaemaaGreatDoorW.PrintMore
attribute [local go_sem] max2_int min2_int max_two min_two
def apartT : List (List Int) := [[], [2, 3, 4, 5, 6, 7, 8, 9], [3, 5], [5, 8], [5, 8], [6, 8], [], [9], [], []]
def RowAt (w : World) (v : Value) (zs : List Int) : Prop := (zs = [] ∧ ∃ A c, v = .slice A 0 c) ∨ ∃ b off c, v = .slice (some ⟨b, off, none⟩) zs.length c ∧ ∀ j, j < zs.length → w.cell? ⟨b, off + j, none⟩ = some (.int .i64 (zs.getD j 0))
/-- The program's table of classes that lie apart. -/
def ApartAt (w : World) : Prop := ∀ i : Nat, i < 10 → ∃ v, w.cell? ⟨0, i, none⟩ = some v ∧ RowAt w v (apartT.getD i [])
theorem RowAt.below {w w' : World} {v : Value} {zs : List Int} (h : RowAt w v zs) (hb : Below w.heap.size w w') : RowAt w' v zs := by
 rcases h with h | ⟨b, off, c, hv, hc⟩
 ·exact .inl h
 ·exact .inr ⟨b, off, c, hv, fun j hj => keepw hb (hc j hj)⟩
theorem ApartAt.below {w w' : World} (h : ApartAt w) (hb : Below w.heap.size w w') : ApartAt w' := fun i hi => by
 obtain ⟨v, h1, h2⟩ := h i hi
 exact ⟨v, keepw hb h1, h2.below hb⟩
theorem apartT_le (i : Nat) (hi : i < 10) : (apartT.getD i []).length ≤ 8 := by
 have : ∀ i : Fin 10, (apartT.getD i.val []).length ≤ 8 := by decide
 exact this ⟨i, hi⟩
theorem apart_slice {w : World} (h : ApartAt w) (i : Nat) (hi : i < 10) : ∃ A c, w.cell? ⟨0, i, none⟩ = some (.slice A (apartT.getD i []).length c) ∧ ∀ (x : Int) (W : World), Below w.heap.size w W → Calls Tryz.prog 93 #[.slice A (apartT.getD i []).length c, .int .i64 x] W fun e w' => e = .returned (.bool ((apartT.getD i []).contains x)) ∧ W = w' := by
 obtain ⟨v, h1, h2⟩ := h i hi
 have hle := apartT_le i hi
 generalize apartT.getD i [] = zs at h2 hle ⊢
 rcases h2 with ⟨rfl, A, c, rfl⟩ | ⟨b, off, c, rfl, hc⟩
 ·exact ⟨A, c, h1, fun x W hW => (Tryz.slices_Contains_int_empty A c x W).mono fun e w' ⟨he, hw⟩ => ⟨he, hw.symm⟩⟩
 ·refine ⟨_, c, h1, fun x W hW => (Tryz.slices_Contains_int b off zs.length c zs x W (Nat.le_refl _) (by omega) (fun j hj => keepw hW (hc j hj))).mono fun e w' ⟨he, hw⟩ => ⟨?_, hw.symm⟩⟩
  rw [he, List.take_length]
def loI (a b : Int) : Int := if b < a then b else a
def hiI (a b : Int) : Int := if a < b then b else a
def apartB (a b : Int) : Bool := decide (1 ≤ loI a b) && (decide (hiI a b ≤ 9) && (apartT.getD (loI a b).toNat []).contains (hiI a b))
theorem lo_le_hi (a b : Int) : loI a b ≤ hiI a b := by unfold loI hiI; split <;> split <;> omega
/-- Where the walk stands behind min and max. -/
theorem two_of (a b : Int) : (b < a ∧ loI a b = b ∧ hiI a b = a) ∨ (¬ b < a ∧ a < b ∧ loI a b = a ∧ hiI a b = b) ∨ (b = a ∧ loI a b = a ∧ hiI a b = a) := by
 unfold loI hiI
 by_cases h1 : b < a
 ·exact .inl ⟨h1, by rw [if_pos h1], by rw [if_neg (by omega)]⟩
 ·by_cases h2 : a < b
  ·exact .inr (.inl ⟨h1, h2, by rw [if_neg h1], by rw [if_pos h2]⟩)
  ·exact .inr (.inr ⟨by omega, by rw [if_neg h1], by rw [if_neg h2]⟩)
theorem apartB_eq (a b lo hi : Int) (h2 : loI a b = lo) (h3 : hiI a b = hi) : apartB a b = (decide (1 ≤ lo) && (decide (hi ≤ 9) && (apartT.getD lo.toNat []).contains hi)) := by unfold apartB; rw [h2, h3]
set_option maxHeartbeats 2000000 in
theorem Apart_any (a b : Int) (w : World) (ha : ApartAt w) : Calls Tryz.prog 55 #[.int .i64 a, .int .i64 b] w fun e w' => e = .returned (.bool (apartB a b)) ∧ w = w' := by
 have hle := lo_le_hi a b
 rcases two_of a b with ⟨h1, h2, h3⟩ | ⟨h0, h1, h2, h3⟩ | ⟨rfl, h2, h3⟩
 ·have hB := Lib.hid (apartB_eq _ _ _ _ h2 h3)
  rw [h2, h3] at hle
  clear h2 h3
  by_cases g1 : 1 ≤ b
  ·by_cases g2 : a ≤ 9
   ·obtain ⟨n, rfl⟩ := Int.eq_ofNat_of_zero_le (show 0 ≤ b by omega)
    obtain ⟨A, c, hc, hcall⟩ := apart_slice ha n (by omega)
    have hcl := hcall a w (Below.refl _ _)
    clear hcall ha
    have hB2 : Hid (apartB a n = (apartT.getD n []).contains a) := Lib.hid (by rw [hB.out]; simp [g1, g2])
    clear hB
    generalize apartT.getD n [] = zs at hc hcl hB2
    generalize zs.contains a = q at hcl hB2
    have n1 : n < 10 := by omega
    go_enter Tryz.func55, Tryz.ntmps55
    go_wp2_with fail
    refine hcl.mono ?_
    rintro e w' ⟨rfl, rfl⟩
    go_wp2_with fail
    go_ret
    exact ⟨by rw [hB2.out]; rfl, rfl⟩
   ·have hB2 : Hid (apartB a b = false) := Lib.hid (by rw [hB.out]; simp [g2])
    clear hB ha
    go_enter Tryz.func55, Tryz.ntmps55
    go_wp2_with fail
    go_ret
    exact ⟨by rw [hB2.out]; rfl, rfl⟩
  ·have hB2 : Hid (apartB a b = false) := Lib.hid (by rw [hB.out]; simp [g1])
   clear hB ha
   go_enter Tryz.func55, Tryz.ntmps55
   go_wp2_with fail
   go_ret
   exact ⟨by rw [hB2.out]; rfl, rfl⟩
 ·have hB := Lib.hid (apartB_eq _ _ _ _ h2 h3)
  rw [h2, h3] at hle
  clear h2 h3
  by_cases g1 : 1 ≤ a
  ·by_cases g2 : b ≤ 9
   ·obtain ⟨n, rfl⟩ := Int.eq_ofNat_of_zero_le (show 0 ≤ a by omega)
    obtain ⟨A, c, hc, hcall⟩ := apart_slice ha n (by omega)
    have hcl := hcall b w (Below.refl _ _)
    clear hcall ha
    have hB2 : Hid (apartB n b = (apartT.getD n []).contains b) := Lib.hid (by rw [hB.out]; simp [g1, g2])
    clear hB
    generalize apartT.getD n [] = zs at hc hcl hB2
    generalize zs.contains b = q at hcl hB2
    have n1 : n < 10 := by omega
    go_enter Tryz.func55, Tryz.ntmps55
    go_wp2_with fail
    refine hcl.mono ?_
    rintro e w' ⟨rfl, rfl⟩
    go_wp2_with fail
    go_ret
    exact ⟨by rw [hB2.out]; rfl, rfl⟩
   ·have hB2 : Hid (apartB a b = false) := Lib.hid (by rw [hB.out]; simp [g2])
    clear hB ha
    go_enter Tryz.func55, Tryz.ntmps55
    go_wp2_with fail
    go_ret
    exact ⟨by rw [hB2.out]; rfl, rfl⟩
  ·have hB2 : Hid (apartB a b = false) := Lib.hid (by rw [hB.out]; simp [g1])
   clear hB ha
   go_enter Tryz.func55, Tryz.ntmps55
   go_wp2_with fail
   go_ret
   exact ⟨by rw [hB2.out]; rfl, rfl⟩
 ·have hB := Lib.hid (apartB_eq _ _ _ _ h2 h3)
  rw [h2, h3] at hle
  clear h2 h3
  by_cases g1 : 1 ≤ b
  ·by_cases g2 : b ≤ 9
   ·obtain ⟨n, rfl⟩ := Int.eq_ofNat_of_zero_le (show 0 ≤ b by omega)
    obtain ⟨A, c, hc, hcall⟩ := apart_slice ha n (by omega)
    have hcl := hcall n w (Below.refl _ _)
    clear hcall ha
    have hB2 : Hid (apartB n n = (apartT.getD n []).contains n) := Lib.hid (by rw [hB.out]; simp [g1, g2])
    clear hB
    generalize apartT.getD n [] = zs at hc hcl hB2
    generalize zs.contains n = q at hcl hB2
    have n1 : n < 10 := by omega
    go_enter Tryz.func55, Tryz.ntmps55
    go_wp2_with fail
    refine hcl.mono ?_
    rintro e w' ⟨rfl, rfl⟩
    go_wp2_with fail
    go_ret
    exact ⟨by rw [hB2.out]; rfl, rfl⟩
   ·have hB2 : Hid (apartB b b = false) := Lib.hid (by rw [hB.out]; simp [g2])
    clear hB ha
    go_enter Tryz.func55, Tryz.ntmps55
    go_wp2_with fail
    go_ret
    exact ⟨by rw [hB2.out]; rfl, rfl⟩
  ·have hB2 : Hid (apartB b b = false) := Lib.hid (by rw [hB.out]; simp [g1])
   clear hB ha
   go_enter Tryz.func55, Tryz.ntmps55
   go_wp2_with fail
   go_ret
   exact ⟨by rw [hB2.out]; rfl, rfl⟩
end Go.Proofs.YtfflbeenkfaemaaGreatDoor.Ext
namespace Go.Proofs.YtfflbeenkfaemaaGreatDoor.Ext
open Go.RowKit Go.Proofs.YtfflbeenkfaemaaGreatDoorW.PrintWords Go.Proofs.YtfflbeenkfaemaaGreatDoorW.PrintLast
theorem int_at {w : World} {A : Option Addr} {n : Nat} {xs : List Int} (h : Kd.C (Kd.int .i64) w A n xs) (k : Nat) (hk : k < n) (hn : n = xs.length) : ∃ ad, A = some ad ∧ w.cell? (ad.add k) = some (.int .i64 (xs.getD k 0)) ∧ xs[k]? = some (xs.getD k 0) := by
 obtain ⟨ad, cs, eA, _, hK, hc0⟩ := Kd.C_get h (0 : Int) (k : Int) (by omega) (by omega)
 obtain rfl : cs = [.int .i64 (xs.getD (k : Int).toNat 0)] := hK
 have hq : w.cell? (ad.add ((k : Int).toNat * 1 + 0)) = some (.int .i64 (xs.getD (k : Int).toNat 0)) := hc0 0 _ rfl
 rw [Nat.mul_one, Nat.add_zero, Int.toNat_natCast] at hq
 exact ⟨ad, eA, hq, by rw [List.getD_eq_getElem?_getD, List.getElem?_eq_getElem (by omega)]; rfl⟩
set_option maxHeartbeats 2000000 in
theorem index_int (g : Nat) (lb : Array Value) (eg : ∀ args w, (callFunc g args).run Tryz.prog w = .ok (.enter g args) w) (p : Int → Bool) (A : Option Addr) (n c : Nat) (l : List Int) (w : World) (hn : n = l.length) (hr : Kd.C (Kd.int .i64) w A n l) (hl : l.length ≤ 1000000000)
  (hp : ∀ x ∈ l, ∀ W, Below w.heap.size w W → Calls Tryz.prog g (#[.int .i64 x] ++ lb) W fun e w' => e = .returned (.bool (p x)) ∧ Below W.heap.size W w') :
  Calls Tryz.prog 92 #[.slice A n c, .func (.func g) #[] lb] w fun e w' => ∃ r : Int, e = .returned (.int .i64 r) ∧ decide (0 ≤ r) = l.any p ∧ Below w.heap.size w w' := by
 replace hn := Lib.hid hn
 have hnl : n ≤ 1000000000 := by have := hn.out; omega
 go_enter Tryz.func92, Tryz.ntmps92
 go_wp2_with fail
 go_loopw [5, 8] (fun _ v8 wr => ∃ k : Nat, k ≤ n ∧ v8 = .int .i64 k ∧ Below w.heap.size w wr ∧ Aside ((l.take k).any p = false)) (fun _ v8 _ => n - (intOf v8).toNat)
 case atStart => exact ⟨0, by omega, rfl, Below.refl _ _, by simp [Aside]⟩
 case round =>
  obtain ⟨k, hk, rfl, hB, hA⟩ := hrel
  by_cases hlt : k < n
  ·obtain ⟨ad, eA, e0, hz⟩ := int_at hr k hlt hn.out
   subst eA
   have hcall := hp _ (List.mem_of_getElem? hz) wr hB
   replace hz := Lib.hid hz
   have hn := fun (h : p (l.getD k 0) = false) => any_next p l k _ hz.out hA h
   have hh := fun (h : p (l.getD k 0) = true) => any_hit p l k _ hz.out h
   clear hz
   generalize l.getD k 0 = z at e0 hcall hn hh
   have a0 := keepw hB e0
   clear e0
   cases hq : p z with
   | true =>
    rw [hq] at hcall
    replace hh := Lib.hid (hh hq)
    clear hn hq
    go_wp2_with fail
    refine hcall.mono ?_
    rintro e w' ⟨rfl, hb'⟩
    go_wp2_with fail
    go_ret
    exact ⟨_, rfl, by rw [hh.out]; simp, below_step hB hb'⟩
   | false =>
    rw [hq] at hcall
    replace hn : Aside ((l.take (k + 1)).any p = false) := hn hq
    clear hh hq
    go_wp2_with fail
    refine hcall.mono ?_
    rintro e w' ⟨rfl, hb'⟩
    go_wp2_with fail
    go_roundw
    case measure => simp [intOf]; omega
    case rel => exact ⟨k + 1, by omega, by go_num, below_step hB hb', hn⟩
  ·have hA2 : Aside (l.any p = false) := by
    have := hA.out
    have h2 := hn.out
    rwa [List.take_of_length_le (by omega)] at this
   go_wp2_with fail
   go_ret
   exact ⟨_, rfl, by rw [hA2.out]; rfl, hB⟩
theorem contains_int (g : Nat) (lb : Array Value) (eg : ∀ args w, (callFunc g args).run Tryz.prog w = .ok (.enter g args) w) (p : Int → Bool) (A : Option Addr) (n c : Nat) (l : List Int) (w : World) (hn : n = l.length) (hr : Kd.C (Kd.int .i64) w A n l) (hl : l.length ≤ 1000000000)
  (hp : ∀ x ∈ l, ∀ W, Below w.heap.size w W → Calls Tryz.prog g (#[.int .i64 x] ++ lb) W fun e w' => e = .returned (.bool (p x)) ∧ Below W.heap.size W w') :
  Calls Tryz.prog 53 #[.slice A n c, .func (.func g) #[] lb] w fun e w' => e = .returned (.bool (l.any p)) ∧ Below w.heap.size w w' := by
 have hI := index_int g lb eg p A n c l w hn hr hl hp
 clear hp hn
 go_enter Tryz.func53, Tryz.ntmps53
 go_wp2_with fail
 refine hI.mono ?_
 rintro e w' ⟨r, rfl, hr, hb'⟩
 replace hr := Lib.hid hr
 go_wp2_with fail
 go_ret
 exact ⟨by rw [← hr.out]; rfl, hb'⟩
theorem apart1_any (a b : Int) (B : Nat) (w : World) (ha : ApartAt w) (hB : w.cell? ⟨B, 0, none⟩ = some (.int .i64 a)) :
  Calls Tryz.prog 54 #[.int .i64 b, .pointer (some ⟨B, 0, none⟩)] w fun e w' => e = .returned (.bool (apartB a b)) ∧ w = w' := by
 have hc := Apart_any a b w ha
 go_enter Tryz.func54, Tryz.ntmps54
 go_wp2_with fail
 refine hc.mono ?_
 rintro e w' ⟨rfl, rfl⟩
 go_wp2_with fail
 go_ret
 exact ⟨rfl, rfl⟩
theorem apartB_comm (a b : Int) : apartB a b = apartB b a := by
 have h1 : loI a b = loI b a := by unfold loI; split <;> split <;> omega
 have h2 : hiI a b = hiI b a := by unfold hiI; split <;> split <;> omega
 unfold apartB
 rw [h1, h2]
theorem apartB_self (a : Int) : apartB a a = false := by
 have h1 : loI a a = a := by unfold loI; split <;> rfl
 have h2 : hiI a a = a := by unfold hiI; split <;> rfl
 rw [apartB_eq _ _ _ _ h1 h2]
 by_cases g1 : 1 ≤ a
 ·by_cases g2 : a ≤ 9
  ·obtain ⟨n, rfl⟩ := Int.eq_ofNat_of_zero_le (show 0 ≤ a by omega)
   have : ∀ i : Fin 10, (apartT.getD i.val []).contains (i.val : Int) = false := by decide
   have := this ⟨n, by omega⟩
   simp only [Int.toNat_natCast]
   rw [this]
   simp
  ·simp [g2]
 ·simp [g1]
def clsOf (gs : List X.S30) (x : X.S55) : Int := (getG gs x.f0).f1
def anyApart (gs : List X.S30) (l : List X.S55) : Bool := l.any fun x => l.any fun y => apartB (clsOf gs x) (clsOf gs y)
def togB (gs : List X.S30) (l : List X.S55) : Int := if knownB gs l = 0 then (if anyApart gs l = true then 12 else 0) else knownB gs l
theorem known_has {gs : List X.S30} {l : List X.S55} (h : knownB gs l = 0) {x : X.S55} (hx : x ∈ l) : hasG gs x.f0 = true := by
 unfold knownB at h
 split at h
 ·omega
 ·split at h
  ·omega
  ·rename_i h1 h2
   have h4 : missB gs x = false := by
    have := List.any_eq_false.1 (by simpa using h2) x hx
    simpa using this
   unfold missB getG at h4
   unfold hasG
   cases hf : findG gs x.f0 with
   | none => rw [hf] at h4; simp [zeroG] at h4
   | some z => rfl
/-- No class lies apart from a later one: none from any other. -/
theorem none_apart {gs : List X.S30} {l : List X.S55} {ks : List Int} (hk : knownB gs l = 0) (hm : ∀ k, k ∈ ks ↔ ∃ x ∈ l, hasG gs x.f0 = true ∧ (getG gs x.f0).f1 = k)
  (h : ∀ p, p < ks.length → (ks.drop (p + 1)).any (apartB (ks.getD p 0)) = false) : anyApart gs l = false := by
 have key : ∀ a ∈ ks, ∀ b ∈ ks, apartB a b = false := by
  intro a ha b hb
  obtain ⟨p, hp, rfl⟩ := List.getElem_of_mem ha
  obtain ⟨q, hq, rfl⟩ := List.getElem_of_mem hb
  have two : ∀ p q (hp : p < ks.length) (hq : q < ks.length), p < q → apartB ks[p] ks[q] = false := by
   intro p q hp hq hlt
   have h1 := List.any_eq_false.1 (h p hp) ks[q] (by
    have : ks[q] = (ks.drop (p + 1))[q - (p + 1)]'(by rw [List.length_drop]; omega) := by
     rw [List.getElem_drop]; congr 1; omega
    rw [this]
    exact List.getElem_mem _)
   have e : ks.getD p 0 = ks[p] := by rw [List.getD_eq_getElem?_getD, List.getElem?_eq_getElem hp]; rfl
   rw [e] at h1
   simpa using h1
  rcases Nat.lt_trichotomy p q with hlt | rfl | hlt
  ·exact two p q hp hq hlt
  ·exact apartB_self _
  ·rw [apartB_comm]; exact two q p hq hp hlt
 unfold anyApart
 rw [List.any_eq_false]
 intro x hx
 rw [Bool.not_eq_true, List.any_eq_false]
 intro y hy
 rw [Bool.not_eq_true]
 exact key _ ((hm _).2 ⟨x, hx, known_has hk hx, rfl⟩) _ ((hm _).2 ⟨y, hy, known_has hk hy, rfl⟩)
theorem some_apart {gs : List X.S30} {l : List X.S55} {ks : List Int} (hm : ∀ k, k ∈ ks ↔ ∃ x ∈ l, hasG gs x.f0 = true ∧ (getG gs x.f0).f1 = k)
  (p : Nat) (hp : p < ks.length) (h : (ks.drop (p + 1)).any (apartB (ks.getD p 0)) = true) : anyApart gs l = true := by
 obtain ⟨b, hb, hab⟩ := List.any_eq_true.1 h
 have e : ks.getD p 0 = ks[p] := by rw [List.getD_eq_getElem?_getD, List.getElem?_eq_getElem hp]; rfl
 rw [e] at hab
 obtain ⟨x, hx, _, hx2⟩ := (hm _).1 (List.getElem_mem hp)
 obtain ⟨y, hy, _, hy2⟩ := (hm _).1 (List.mem_of_mem_drop hb)
 exact List.any_eq_true.2 ⟨x, hx, List.any_eq_true.2 ⟨y, hy, by unfold clsOf; rw [hx2, hy2]; exact hab⟩⟩
theorem drop_CI {e base n c k : Nat} {w w' : World} {ok : Nat → Prop} {A : Option Addr} {out : List Int} (h : Kd.R (Kd.int .i64) e w base ok (.slice A n c) out) (hb : Below w.heap.size w w') (hk : k ≤ out.length) : Kd.C (Kd.int .i64) w' (if c = k then A else A.map (·.add k)) (out.length - k) (out.drop k) := by
 have hc := (Kd.R_reads' h).2.1
 have hn := (Kd.R_reads' h).1
 have := Kd.C_below (Kd.C_drop (c := c) (Kd.R_reads' h).2.2 hk (by omega)) hb
 rw [List.length_drop] at this
 have e : (fun x : Addr => x.add (k * (Kd.int .i64).sz)) = fun x => x.add k := by funext x; show x.add (k * 1) = _; rw [Nat.mul_one]
 rwa [e] at this
set_option maxHeartbeats 4000000 in
set_option maxRecDepth 100000 in
theorem Together_any (t : Nat) (gs : List X.S30) (A : Option Addr) (c : Nat) (l : List X.S55) (w : World) (ht : TabIn w t gs) (hap : ApartAt w) (hr : Kd.C X.k55 w A l.length l) (hl : l.length ≤ 1000000) (hs : ∀ x ∈ l, x.f0.size ≤ 9223372036854775807) (hgs : GoodsOk gs) :
  Calls Tryz.prog 19 #[.pointer (some ⟨t, 0, none⟩), .slice A l.length c] w fun e w' => e = .returned (.int .i64 (togB gs l)) ∧ Below w.heap.size w w' := by
 have cK := known_any t gs A c l w ht hr (by omega) hs
 rcases knownB_cases gs l with h | h | h
 ·have hk := Lib.hid (show togB gs l = 1 by unfold togB; rw [h]; rfl)
  rw [h] at cK
  clear h
  go_enter Tryz.func19, Tryz.ntmps19
  go_wp2_with fail
  refine cK.mono ?_
  rintro e w' ⟨rfl, hb⟩
  go_wp2_with fail
  go_ret
  exact ⟨by rw [hk.out]; rfl, hb⟩
 ·have hk := Lib.hid (show togB gs l = 4 by unfold togB; rw [h]; rfl)
  rw [h] at cK
  clear h
  go_enter Tryz.func19, Tryz.ntmps19
  go_wp2_with fail
  refine cK.mono ?_
  rintro e w' ⟨rfl, hb⟩
  go_wp2_with fail
  go_ret
  exact ⟨by rw [hk.out]; rfl, hb⟩
 ·have hk1 := Lib.hid (fun (h2 : anyApart gs l = true) => show togB gs l = 12 by unfold togB; rw [if_pos h, if_pos h2])
  have hk2 := Lib.hid (fun (h2 : anyApart gs l = false) => show togB gs l = 0 by unfold togB; rw [if_pos h, if_neg (by rw [h2]; simp)])
  rw [h] at cK
  replace h := Lib.hid h
  have e54 := enters_of Tryz.func54 (by kernel_rfl) rfl
  go_enter Tryz.func19, Tryz.ntmps19
  go_wp2_with fail
  refine cK.mono ?_
  rintro e w1 ⟨rfl, hb1⟩
  clear cK
  have cC := Classes_any t gs A c l w1 (ht.below hb1) (Kd.C_below hr hb1) hl hs (fun z hz => ⟨(hgs z hz).2.1, (hgs z hz).2.2.1⟩)
  go_wp2_with fail
  refine cC.mono ?_
  rintro e w2 ⟨v, ks, rfl, hR, hkl, hm, hb2⟩
  clear cC
  obtain ⟨A2, c2, rfl⟩ := Kd.R_slice hR
  have hsz := hR
  have hC := (Kd.R_reads' hR).2.2
  have hcc := (Kd.R_reads' hR).2.1
  have hB2 := below_step hb1 hb2
  have hap2 := hap.below hB2
  replace hm := Lib.hid hm
  have hk3 : ks.length ≤ 1000000 := by omega
  go_wp2_with fail
  go_loopw [20] (fun v20 wr => ∃ i : Nat, i ≤ ks.length ∧ v20 = .int .i64 i ∧ Below w2.heap.size w2 wr ∧ Aside (∀ p, p < i → (ks.drop (p + 1)).any (apartB (ks.getD p 0)) = false)) (fun v20 _ => ks.length - (intOf v20).toNat)
  case atStart => exact ⟨0, by omega, rfl, Below.refl _ _, fun p hp => absurd hp (Nat.not_lt_zero _)⟩
  case round =>
   obtain ⟨i, hi, rfl, hB, hA⟩ := hrel
   by_cases hlt : i < ks.length
   ·obtain ⟨ad, eA, e0, hz⟩ := int_at hC i hlt rfl
    subst eA
    have a0 := keepw hB e0
    clear hz e0
    have hU : Below wr.heap.size wr (wr.alloc (.cells #[.int .i64 (ks.getD i 0)] 3)) := below_alloc (Below.refl _ _) _
    have hcell : (wr.alloc (.cells #[.int .i64 (ks.getD i 0)] 3)).cell? ⟨wr.heap.size, 0, none⟩ = some (.int .i64 (ks.getD i 0)) := (blk_cell (blk_new wr _) 0).trans rfl
    have hD := drop_CI (k := i + 1) hR (hB.trans (hU.mono hB.size)) (by omega)
    have cF := fun c' => contains_int _ #[.pointer (some ⟨wr.heap.size, 0, none⟩)] e54 (apartB (ks.getD i 0)) _ (ks.length - (i + 1)) c' (ks.drop (i + 1)) _ (by rw [List.length_drop]) hD (by rw [List.length_drop]; omega)
     (fun x hx W hW => (apart1_any (ks.getD i 0) x wr.heap.size W (hap2.below ((hB.trans (hU.mono hB.size)).trans (hW.mono (by have := hB.size; have := hU.size; omega)))) (keepw hW hcell)).mono fun e w' ⟨he, hw⟩ => ⟨he, by rw [← hw]; exact Below.refl _ _⟩)
    have hn1 := fun (h : (ks.drop (i + 1)).any (apartB (ks.getD i 0)) = true) => some_apart hm.out i hlt h
    have hn2 : (ks.drop (i + 1)).any (apartB (ks.getD i 0)) = false → Aside (∀ p, p < i + 1 → (ks.drop (p + 1)).any (apartB (ks.getD p 0)) = false) := fun h p hp => by
     rcases Nat.lt_or_ge p i with h2 | h2
     ·exact hA.out p h2
     ·obtain rfl : p = i := by omega
      exact h
    clear hcell hD hA
    generalize (ks.drop (i + 1)).any (apartB (ks.getD i 0)) = q at cF hn1 hn2
    generalize ks.getD i 0 = z at a0 cF hU
    clear hap hap2 hs hgs hl hr hsz hC hm h hk2
    by_cases hce : c2 = i + 1
    ·rw [if_pos hce] at cF
     subst hce
     rw [show ks.length - (i + 1) = 0 by omega] at cF
     cases q with
     | true =>
      replace hn1 := Lib.hid (hk1.out (hn1 rfl))
      clear hn2
      go_wp2_with fail
      (with_reducible refine (cF _).mono ?_)
      rintro e w3 ⟨rfl, hb3⟩
      go_wp2_with fail
      go_ret
      exact ⟨by rw [hn1.out]; rfl, below_step hB2 (hB.trans ((hU.trans (hb3.mono hU.size)).mono hB.size))⟩
     | false =>
      replace hn2 := hn2 rfl
      clear hn1
      go_wp2_with fail
      (with_reducible refine (cF _).mono ?_)
      rintro e w3 ⟨rfl, hb3⟩
      go_wp2_with fail
      go_roundw
      case measure => simp [intOf]; omega
      case rel => exact ⟨i + 1, by omega, by go_num, hB.trans ((hU.trans (hb3.mono hU.size)).mono hB.size), hn2⟩
    ·rw [if_neg hce] at cF
     have hAd : ad.add (i + 1) = ⟨ad.block, ad.off + (i + 1), none⟩ := by unfold Addr.add; simp
     simp only [Option.map_some, hAd] at cF
     clear hAd
     cases q with
     | true =>
      replace hn1 := Lib.hid (hk1.out (hn1 rfl))
      clear hn2
      go_wp2_with fail
      (with_reducible refine (cF _).mono ?_)
      rintro e w3 ⟨rfl, hb3⟩
      go_wp2_with fail
      go_ret
      exact ⟨by rw [hn1.out]; rfl, below_step hB2 (hB.trans ((hU.trans (hb3.mono hU.size)).mono hB.size))⟩
     | false =>
      replace hn2 := hn2 rfl
      clear hn1
      go_wp2_with fail
      (with_reducible refine (cF _).mono ?_)
      rintro e w3 ⟨rfl, hb3⟩
      go_wp2_with fail
      go_roundw
      case measure => simp [intOf]; omega
      case rel => exact ⟨i + 1, by omega, by go_num, hB.trans ((hU.trans (hb3.mono hU.size)).mono hB.size), hn2⟩
   ·have e : i = ks.length := by omega
    have hz := Lib.hid (hk2.out (none_apart h.out hm.out (fun p hp => hA.out p (by omega))))
    subst e
    go_wp2_with fail
    go_ret
    exact ⟨by rw [hz.out]; rfl, below_step hB2 hB⟩
end Go.Proofs.YtfflbeenkfaemaaGreatDoor.Ext
namespace Go.Proofs.YtfflbeenkfaemaaGreatDoor.Ext
open Go.RowKit Go.Proofs.YtfflbeenkfaemaaGreatDoorW.PrintWords Go.Proofs.YtfflbeenkfaemaaGreatDoorW.PrintLast
theorem rd_atG (l : List X.S30) (k : Nat) (h : k < l.length) : l[k]? = some (X.rd_T30 l (k : Int)) := by
 have e : X.rd_T30 l (k : Int) = l[k] := by simp [X.rd_T30, List.getD, List.getElem?_eq_getElem h]
 rw [e, List.getElem?_eq_getElem h]
def mayB (g : X.S30) : Bool := nameB g.f0 && (decide (0 ≤ g.f1) && (decide (g.f1 ≤ 9) && (cntB g.f2 && cntB g.f3)))
set_option maxHeartbeats 2000000 in
theorem May_any (g : X.S30) (hs : g.f0.size ≤ 9223372036854775807) (w : World) : Calls Tryz.prog 41 #[goodV g] w fun e w' => e = .returned (.bool (mayB g)) ∧ Below w.heap.size w w' := by
 obtain ⟨s, c, wt, vl⟩ := g
 simp only at hs
 unfold goodV
 have l1 := fun w => Name_any s hs w
 have l2 := fun w => count_any wt w
 have l3 := fun w => count_any vl w
 cases h1 : nameB s
 ·rw [h1] at l1
  have hM := Lib.hid (show mayB ⟨s, c, wt, vl⟩ = false by simp [mayB, h1])
  clear h1
  go_enter Tryz.func41, Tryz.ntmps41
  go_wp2_with fail
  refine (l1 _).mono ?_
  rintro e w' ⟨rfl, rfl⟩
  go_wp2_with fail
  go_ret
  exact ⟨by rw [hM.out]; rfl, below_alloc (Below.refl _ _) _⟩
 ·rw [h1] at l1
  by_cases h2 : 0 ≤ c
  ·by_cases h3 : c ≤ 9
   ·cases h4 : cntB wt
    ·rw [h4] at l2
     have hM := Lib.hid (show mayB ⟨s, c, wt, vl⟩ = false by simp [mayB, h4])
     clear h1 h4
     go_enter Tryz.func41, Tryz.ntmps41
     go_wp2_with fail
     refine (l1 _).mono ?_
     rintro e w' ⟨rfl, rfl⟩
     go_wp2_with fail
     refine (l2 _).mono ?_
     rintro e w' ⟨rfl, rfl⟩
     go_wp2_with fail
     go_ret
     exact ⟨by rw [hM.out]; rfl, below_alloc (Below.refl _ _) _⟩
    ·rw [h4] at l2
     cases h5 : cntB vl
     all_goals
      rw [h5] at l3
      have hM := Lib.hid (show mayB ⟨s, c, wt, vl⟩ = (true && (true && (true && (true && cntB vl)))) by simp [mayB, h1, h2, h3, h4])
      rw [h5] at hM
      clear h1 h4 h5
      go_enter Tryz.func41, Tryz.ntmps41
      go_wp2_with fail
      refine (l1 _).mono ?_
      rintro e w' ⟨rfl, rfl⟩
      go_wp2_with fail
      refine (l2 _).mono ?_
      rintro e w' ⟨rfl, rfl⟩
      go_wp2_with fail
      refine (l3 _).mono ?_
      rintro e w' ⟨rfl, rfl⟩
      go_wp2_with fail
      go_ret
      exact ⟨by rw [hM.out]; rfl, below_alloc (Below.refl _ _) _⟩
   ·have h3' : decide (c ≤ 9) = false := by simpa using h3
    have hM := Lib.hid (show mayB ⟨s, c, wt, vl⟩ = false by simp [mayB, h3])
    clear h1
    go_enter Tryz.func41, Tryz.ntmps41
    go_wp2_with fail
    refine (l1 _).mono ?_
    rintro e w' ⟨rfl, rfl⟩
    go_wp2_with fail
    go_ret
    exact ⟨by rw [hM.out]; rfl, below_alloc (Below.refl _ _) _⟩
  ·have h2' : decide (0 ≤ c) = false := by simpa using h2
   have hM := Lib.hid (show mayB ⟨s, c, wt, vl⟩ = false by simp [mayB, h2])
   clear h1
   go_enter Tryz.func41, Tryz.ntmps41
   go_wp2_with fail
   refine (l1 _).mono ?_
   rintro e w' ⟨rfl, rfl⟩
   go_wp2_with fail
   go_ret
   exact ⟨by rw [hM.out]; rfl, below_alloc (Below.refl _ _) _⟩
theorem mayNot_any (g : X.S30) (hs : g.f0.size ≤ 9223372036854775807) (w : World) : Calls Tryz.prog 40 #[goodV g] w fun e w' => e = .returned (.bool (!mayB g)) ∧ Below w.heap.size w w' := by
 have hB : Below w.heap.size w (w.alloc (.cells #[.string g.f0, .int .i64 g.f1, .int .i64 g.f2, .int .i64 g.f3] 30)) := below_alloc (Below.refl _ _) _
 have hM := May_any g hs (w.alloc (.cells #[.string g.f0, .int .i64 g.f1, .int .i64 g.f2, .int .i64 g.f3] 30))
 unfold goodV at hM ⊢
 go_enter Tryz.func40, Tryz.ntmps40
 go_wp2_with fail
 refine hM.mono ?_
 rintro e w' ⟨rfl, hb⟩
 go_wp2_with fail
 go_ret
 exact ⟨rfl, below_step hB hb⟩
set_option maxHeartbeats 2000000 in
theorem index_good (g : Nat) (lb : Array Value) (eg : ∀ args w, (callFunc g args).run Tryz.prog w = .ok (.enter g args) w) (p : X.S30 → Bool) (A : Option Addr) (c : Nat) (l : List X.S30) (w : World) (hr : Kd.C X.k30 w A l.length l) (hl : l.length ≤ 1000000000)
  (hp : ∀ x ∈ l, ∀ W, Below w.heap.size w W → Calls Tryz.prog g (#[goodV x] ++ lb) W fun e w' => e = .returned (.bool (p x)) ∧ Below W.heap.size W w') :
  Calls Tryz.prog 77 #[.slice A l.length c, .func (.func g) #[] lb] w fun e w' => ∃ r : Int, e = .returned (.int .i64 r) ∧ decide (0 ≤ r) = l.any p ∧ Below w.heap.size w w' := by
 go_enter Tryz.func77, Tryz.ntmps77
 go_wp2_with fail
 go_loopw [5, 8] (fun _ v8 wr => ∃ k : Nat, k ≤ l.length ∧ v8 = .int .i64 k ∧ Below w.heap.size w wr ∧ Aside ((l.take k).any p = false)) (fun _ v8 _ => l.length - (intOf v8).toNat)
 case atStart => exact ⟨0, by omega, rfl, Below.refl _ _, by simp [Aside]⟩
 case round =>
  obtain ⟨k, hk, rfl, hB, hA⟩ := hrel
  by_cases hlt : k < l.length
  ·obtain ⟨ad, eA, e0, e1, e2, e3⟩ := X.at_T30 hr (k : Int) (by omega) (by omega)
   subst eA
   have hz := rd_atG l k hlt
   have hcall := hp _ (List.mem_of_getElem? hz) wr hB
   replace hz := Lib.hid hz
   have hn := fun (h : p (X.rd_T30 l (k : Int)) = false) => any_next p l k _ hz.out hA h
   have hh := fun (h : p (X.rd_T30 l (k : Int)) = true) => any_hit p l k _ hz.out h
   clear hz
   generalize X.rd_T30 l (k : Int) = z at e0 e1 e2 e3 hcall hn hh
   obtain ⟨x, n1, n2, n3⟩ := z
   simp only [Int.toNat_natCast] at e0 e1 e2 e3
   have a0 := keepw hB e0
   have a1 := keepw hB e1
   have a2 := keepw hB e2
   have a3 := keepw hB e3
   clear e0 e1 e2 e3
   unfold goodV at hcall
   cases hq : p ⟨x, n1, n2, n3⟩ with
   | true =>
    rw [hq] at hcall
    replace hh := Lib.hid (hh hq)
    clear hn hq
    go_wp2_with fail
    refine hcall.mono ?_
    rintro e w' ⟨rfl, hb'⟩
    go_wp2_with fail
    go_ret
    exact ⟨_, rfl, by rw [hh.out]; simp, below_step hB hb'⟩
   | false =>
    rw [hq] at hcall
    replace hn : Aside ((l.take (k + 1)).any p = false) := hn hq
    clear hh hq
    go_wp2_with fail
    refine hcall.mono ?_
    rintro e w' ⟨rfl, hb'⟩
    go_wp2_with fail
    go_roundw
    case measure => simp [intOf]; omega
    case rel => exact ⟨k + 1, by omega, by go_num, below_step hB hb', hn⟩
  ·have hA2 : Aside (l.any p = false) := by
    have := hA.out
    rwa [List.take_of_length_le (by omega)] at this
   go_wp2_with fail
   go_ret
   exact ⟨_, rfl, by rw [hA2.out]; rfl, hB⟩
theorem contains_good (g : Nat) (lb : Array Value) (eg : ∀ args w, (callFunc g args).run Tryz.prog w = .ok (.enter g args) w) (p : X.S30 → Bool) (A : Option Addr) (c : Nat) (l : List X.S30) (w : World) (hr : Kd.C X.k30 w A l.length l) (hl : l.length ≤ 1000000000)
  (hp : ∀ x ∈ l, ∀ W, Below w.heap.size w W → Calls Tryz.prog g (#[goodV x] ++ lb) W fun e w' => e = .returned (.bool (p x)) ∧ Below W.heap.size W w') :
  Calls Tryz.prog 39 #[.slice A l.length c, .func (.func g) #[] lb] w fun e w' => e = .returned (.bool (l.any p)) ∧ Below w.heap.size w w' := by
 have hI := index_good g lb eg p A c l w hr hl hp
 clear hp
 go_enter Tryz.func39, Tryz.ntmps39
 go_wp2_with fail
 refine hI.mono ?_
 rintro e w' ⟨r, rfl, hr, hb'⟩
 replace hr := Lib.hid hr
 go_wp2_with fail
 go_ret
 exact ⟨by rw [← hr.out]; rfl, hb'⟩
end Go.Proofs.YtfflbeenkfaemaaGreatDoor.Ext
namespace Go.Proofs.YtfflbeenkfaemaaGreatDoor.Ext
open Go.RowKit Go.Proofs.YtfflbeenkfaemaaGreatDoorW.PrintWords Go.Proofs.YtfflbeenkfaemaaGreatDoorW.PrintLast
theorem cellG {w w' : World} {g : Nat} {p : Addr} {v : Value} (h : w.grownBy w' (some g)) (hc : w.cell? p = some v) (hk : p.block ≠ g) : w'.cell? p = some v := by
 have e := h.block p.block (World.block_lt_of_cell? w _ hc) (fun e => hk (by injection e))
 unfold World.cell? at hc ⊢
 rw [e]
 exact hc
def dupB (l : List X.S30) : Bool := (List.range l.length).any fun i => hasG (l.take i) (X.rd_T30 l (i : Int)).f0
def newB (l : List X.S30) : Int := if l.any (fun g => !mayB g) = true then 1 else if dupB l = true then 5 else if 4096 < l.length then 7 else 0
theorem dup_at (l : List X.S30) (i : Nat) (hi : i < l.length) (h : hasG (l.take i) (X.rd_T30 l (i : Int)).f0 = true) : dupB l = true :=
 List.any_eq_true.2 ⟨i, List.mem_range.2 hi, h⟩
theorem dup_no (l : List X.S30) (h : ∀ i, i < l.length → hasG (l.take i) (X.rd_T30 l (i : Int)).f0 = false) : dupB l = false := by
 unfold dupB
 rw [List.any_eq_false]
 intro i hi
 rw [h i (List.mem_range.1 hi)]
 simp
/-- What goods.New returns. -/
def NewPost (l : List X.S30) (v : Value) (w' : World) (base : Nat) : Prop := if newB l = 0 then ∃ t, v = .pointer (some ⟨t, 0, none⟩) ∧ base ≤ t ∧ TabIn w' t l else v = .pointer none
theorem take_nextG (l : List X.S30) (i : Nat) (h : i < l.length) : l.take (i + 1) = l.take i ++ [X.rd_T30 l (i : Int)] := by
 rw [List.take_add_one, rd_atG l i h]; rfl
set_option maxHeartbeats 4000000 in
set_option maxRecDepth 100000 in
theorem New_any (A : Option Addr) (c : Nat) (l : List X.S30) (w : World) (hr : Kd.C X.k30 w A l.length l) (hl : l.length ≤ 1000000) (hs : ∀ x ∈ l, x.f0.size ≤ 9223372036854775807) :
  Calls Tryz.prog 12 #[.slice A l.length c] w fun e w' => ∃ v, e = .returned (.tuple #[v, .int .i64 (newB l)]) ∧ NewPost l v w' w.heap.size ∧ Below w.heap.size w w' := by
 have hmm := @run_makeMap Tryz.prog
 have e40 := enters_of Tryz.func40 (by kernel_rfl) rfl
 have hBT : Below w.heap.size w ((w.alloc (.map #[] 0)).alloc (.cells #[.map (some w.heap.size)] 82)) := below_alloc (below_alloc (Below.refl _ _) _) _
 have cC := contains_good _ #[] e40 (fun g => !mayB g) A c l _ (Kd.C_below hr hBT) (by omega) (fun x hx W hW => by simpa using mayNot_any x (hs x hx) W)
 have hM0 : MapIn ((w.alloc (.map #[] 0)).alloc (.cells #[.map (some w.heap.size)] 82)) w.heap.size [] := (MapIn.made w).below (below_alloc (Below.refl _ _) _)
 have hT0 : ((w.alloc (.map #[] 0)).alloc (.cells #[.map (some w.heap.size)] 82)).heap[w.heap.size + 1]? = some (.cells #[.map (some w.heap.size)] 82 (0, 0)) := by
  have := blk_new (w.alloc (.map #[] 0)) (.cells #[.map (some w.heap.size)] 82)
  simpa using this
 clear e40
 cases h1 : l.any (fun g => !mayB g) with
 | true =>
  rw [h1] at cC
  have hk := Lib.hid (show newB l = 1 by unfold newB; rw [if_pos h1])
  clear h1 hM0 hT0
  go_enter Tryz.func12, Tryz.ntmps12
  go_wp2_with fail
  refine cC.mono ?_
  rintro e w' ⟨rfl, hb⟩
  go_wp2_with fail
  go_ret2
  exact ⟨.pointer none, by rw [hk.out]; rfl, by unfold NewPost; rw [hk.out]; rfl, below_step hBT hb⟩
 | false =>
  rw [h1] at cC
  have hk2 := Lib.hid (fun (h2 : dupB l = true) => show newB l = 5 by unfold newB; rw [if_neg (by rw [h1]; simp), if_pos h2])
  have hk3 := Lib.hid (fun (h2 : dupB l = false) (h3 : 4096 < l.length) => show newB l = 7 by unfold newB; rw [if_neg (by rw [h1]; simp), if_neg (by rw [h2]; simp), if_pos h3])
  have hk4 := Lib.hid (fun (h2 : dupB l = false) (h3 : ¬ 4096 < l.length) => show newB l = 0 by unfold newB; rw [if_neg (by rw [h1]; simp), if_neg (by rw [h2]; simp), if_neg h3])
  clear h1
  go_enter Tryz.func12, Tryz.ntmps12
  go_wp2_with fail
  refine cC.mono ?_
  rintro e w1 ⟨rfl, hb1⟩
  have hB1 := below_step hBT hb1
  have hM1 := hM0.below hb1
  have hT1 := blk_below hT0 hb1
  clear hM0 hT0 cC hBT hb1
  obtain ⟨M, hMe⟩ : ∃ M, M = w.heap.size := ⟨_, rfl⟩
  obtain ⟨T, hTe⟩ : ∃ T, T = w.heap.size + 1 := ⟨_, rfl⟩
  have hML : w.heap.size ≤ M := by omega
  have hTL : w.heap.size ≤ T := by omega
  have hne : T ≠ M := by omega
  rw [← hTe] at hT1 ⊢
  rw [← hMe] at hM1 hT1 ⊢
  clear hTe hMe
  go_wp2_with fail
  go_loopw [16] (fun v16 wr => ∃ i : Nat, i ≤ l.length ∧ v16 = .int .i64 i ∧ Aside (wr.heap[T]? = some (.cells #[.map (some M)] 82 (0, 0)) ∧ MapIn wr M (l.take i) ∧ ∀ p, p < i → hasG (l.take p) (X.rd_T30 l (p : Int)).f0 = false) ∧ Below w.heap.size w wr) (fun v16 _ => l.length - (intOf v16).toNat)
  case atStart => exact ⟨0, by omega, rfl, ⟨hT1, hM1, fun p hp => absurd hp (Nat.not_lt_zero _)⟩, hB1⟩
  case round =>
   obtain ⟨i, hi, rfl, ⟨hT, hM, hA⟩, hB⟩ := hrel
   by_cases hlt : i < l.length
   ·obtain ⟨ad, eA, e0, e1, e2, e3⟩ := X.at_T30 hr (i : Int) (by omega) (by omega)
    subst eA
    have hz := rd_atG l i hlt
    have hx := hs _ (List.mem_of_getElem? hz)
    have hnext := Lib.hid (take_nextG l i hlt)
    have hdup := Lib.hid (fun h => hk2.out (dup_at l i hlt h))
    have hA2 := fun (h : hasG (l.take i) (X.rd_T30 l (i : Int)).f0 = false) => show Aside (∀ p, p < i + 1 → hasG (l.take p) (X.rd_T30 l (p : Int)).f0 = false) from fun p hp => by
     rcases Nat.lt_or_ge p i with h2 | h2
     ·exact hA p h2
     ·obtain rfl : p = i := by omega
      exact h
    clear hz hA
    generalize X.rd_T30 l (i : Int) = z at e0 e1 e2 e3 hx hnext hdup hA2
    obtain ⟨g0, g1, g2, g3⟩ := z
    simp only [Int.toNat_natCast] at e0 e1 e2 e3 hx hdup hA2
    have a0 := keepw hB e0
    have a1 := keepw hB e1
    have a2 := keepw hB e2
    have a3 := keepw hB e3
    clear e0 e1 e2 e3
    have hBL : Below w.heap.size w (wr.alloc (.cells #[.string g0, .int .i64 g1, .int .i64 g2, .int .i64 g3] 30)) := hB.alloc hB.size _
    go_wp2_with fail
    have hk0 := (blk_cell (blk_new wr (.cells #[.string g0, .int .i64 g1, .int .i64 g2, .int .i64 g3] 30)) 0).trans rfl
    have hb0 := blk_new wr (.cells #[.string g0, .int .i64 g1, .int .i64 g2, .int .i64 g3] 30)
    have hcL := blk_below hT (below_alloc (Below.refl _ _) (.cells #[.string g0, .int .i64 g1, .int .i64 g2, .int .i64 g3] 30))
    have hmL := hM.below (below_alloc (Below.refl _ _) (.cells #[.string g0, .int .i64 g1, .int .i64 g2, .int .i64 g3] 30))
    have hgbL : w.heap.size ≤ wr.heap.size := hB.size
    have hne2 : wr.heap.size ≠ M := Nat.ne_of_gt hM.lt
    clear hT hM a0 a1 a2 a3
    generalize wr.heap.size = gb at hk0 hb0 hgbL hne2 ⊢
    generalize wr.alloc (.cells #[.string g0, .int .i64 g1, .int .i64 g2, .int .i64 g3] 30) = W0 at hBL hk0 hb0 hcL hmL ⊢
    obtain ⟨hb, hhb⟩ : ∃ hb, hb = hasG (l.take i) g0 := ⟨_, rfl⟩
    obtain ⟨gx, hgx⟩ : ∃ gx, gx = getG (l.take i) g0 := ⟨_, rfl⟩
    have hlk : ∀ W, Below W0.heap.size W0 W → (Instr.lookup 80 (.map (some M)) (.string g0) true).run Tryz.prog W = .ok (.tuple #[goodV gx, .bool hb]) W := fun W hW => by
     rw [hhb, hgx]
     exact (hmL.below hW).look_ok g0 hx
    obtain ⟨q0, q1, q2, q3⟩ := gx
    unfold goodV at hlk
    simp only at hlk
    clear hgx
    rw [← hhb] at hdup hA2
    replace hhb := Lib.hid hhb
    replace hlk := Lib.hid hlk
    have hc0 := (blk_cell hcL 0).trans rfl
    go_region_held3 (fun w' => w'.cell? ⟨gb, 0, none⟩ = some (.string g0) ∧ w'.cell? ⟨T, 0, none⟩ = some (.map (some M)) ∧ (Instr.lookup 80 (.map (some M)) (.string g0) true).run Tryz.prog w' = .ok (.tuple #[.agg #[.string q0, .int .i64 q1, .int .i64 q2, .int .i64 q3], .bool hb]) w') (refine ⟨?_, ?_, ?_⟩ <;> first | exact hlk.out _ (by first | exact below_drew (Below.refl _ _) | exact below_alloc (below_drew (Below.refl _ _)) _) | go_keep) (fail)
    all_goals
     have hU : Below W0.heap.size W0 (W0.alloc (.cells #[.string q0, .int .i64 q1, .int .i64 q2, .int .i64 q3] 30)).drew := below_drew (below_alloc (Below.refl _ _) _)
     have hBe := below_step hBL hU
     have hb2 := blk_below hb0 hU
     have hcL2 := blk_below hcL hU
     have hmL2 := hmL.below hU
     clear hlk hcL hmL hU hc0 hk0 hb0
     generalize (W0.alloc (.cells #[.string q0, .int .i64 q1, .int .i64 q2, .int .i64 q3] 30)).drew = W2 at hBe hb2 hcL2 hmL2 ⊢
     cases hb with
     | true =>
      have hk := Lib.hid (hdup.out rfl)
      clear hdup
      go_wp2_with fail
      go_ret2
      exact ⟨.pointer none, by rw [hk.out]; rfl, by unfold NewPost; rw [hk.out]; rfl, hBe⟩
     | false =>
      replace hA2 := hA2 rfl
      clear hdup
      go_wp2_with fail
      have c0 := (blk_cell hb2 0).trans rfl
      have c1 := (blk_cell hb2 1).trans rfl
      have c2 := (blk_cell hb2 2).trans rfl
      have c3 := (blk_cell hb2 3).trans rfl
      have cT := (blk_cell hcL2 0).trans rfl
      obtain ⟨w3, hrun, hm3, hgr⟩ := (hmL2.below (below_drew (Below.refl _ _))).put ⟨g0, g1, g2, g3⟩ hx (by rw [List.length_take]; omega) hhb.out.symm
      unfold goodV at hrun
      simp only at hrun
      have f0 : w3.cell? ⟨gb, 0, none⟩ = some (.string g0) := cellG hgr c0 hne2
      have f1 : w3.cell? ⟨gb, 1, none⟩ = some (.int .i64 g1) := cellG hgr c1 hne2
      have f2 : w3.cell? ⟨gb, 2, none⟩ = some (.int .i64 g2) := cellG hgr c2 hne2
      have f3 : w3.cell? ⟨gb, 3, none⟩ = some (.int .i64 g3) := cellG hgr c3 hne2
      have fT : w3.cell? ⟨T, 0, none⟩ = some (.map (some M)) := cellG hgr cT hne
      have hTb := (hgr.block T (blk_lt hcL2) (fun e => hne (by injection e))).trans hcL2
      have hB3 : Below w.heap.size w w3 := (below_drew hBe).grown hgr hBe.size (fun j hj => by cases hj; exact hML)
      rw [← hnext.out] at hm3
      go_region_held3 (fun w' => w'.cell? ⟨gb, 0, none⟩ = some (.string g0) ∧ w'.cell? ⟨gb, 1, none⟩ = some (.int .i64 g1) ∧ w'.cell? ⟨gb, 2, none⟩ = some (.int .i64 g2) ∧ w'.cell? ⟨gb, 3, none⟩ = some (.int .i64 g3) ∧ w'.cell? ⟨T, 0, none⟩ = some (.map (some M))) (go_keep) (fail)
      all_goals
       clear f0 f1 f2 f3 fT c0 c1 c2 c3 cT hrun
       go_wp2_with fail
       go_roundw
       case measure => simp [intOf]; omega
       case rel => exact ⟨i + 1, by omega, by go_num, ⟨hTb, hm3, hA2.out⟩, hB3⟩
   ·have e : i = l.length := by omega
    subst e
    rw [List.take_length] at hM
    have hno := dup_no l hA
    clear hA
    by_cases hbig : 4096 < l.length
    ·have hk := Lib.hid (hk3.out hno hbig)
     clear hno hk4 hk2
     go_wp2_with fail
     go_ret2
     exact ⟨.pointer none, by rw [hk.out]; rfl, by unfold NewPost; rw [hk.out]; rfl, hB⟩
    ·have hk := Lib.hid (hk4.out hno hbig)
     clear hno hk3 hk2
     go_wp2_with fail
     go_ret2
     exact ⟨.pointer (some ⟨T, 0, none⟩), by rw [hk.out]; rfl, by unfold NewPost; rw [hk.out]; exact ⟨T, rfl, hTL, M, hT, hM⟩, hB⟩
end Go.Proofs.YtfflbeenkfaemaaGreatDoor.Ext
namespace Go.Proofs.YtfflbeenkfaemaaGreatDoor.Ext
open Go.RowKit Go.Proofs.YtfflbeenkfaemaaGreatDoorW.PrintWords Go.Proofs.YtfflbeenkfaemaaGreatDoorW.PrintLast
/-- The table t of the goods gs, and the table of classes. -/
structure TC (w : World) (t : Nat) (gs : List X.S30) : Prop where
 tab : TabIn w t gs
 ap : ApartAt w
 ok : GoodsOk gs
theorem TC.below {w w' : World} {t : Nat} {gs : List X.S30} (h : TC w t gs) (hb : Below w.heap.size w w') : TC w' t gs := ⟨h.tab.below hb, h.ap.below hb, h.ok⟩
/-- Lots as a call takes them. -/
structure LC (w : World) (A : Option Addr) (l : List X.S55) : Prop where
 row : Kd.C X.k55 w A l.length l
 len : l.length ≤ 100000
 size : ∀ x ∈ l, x.f0.size ≤ 9223372036854775807
theorem LC.below {w w' : World} {A : Option Addr} {l : List X.S55} (h : LC w A l) (hb : Below w.heap.size w w') : LC w' A l := ⟨Kd.C_below h.row hb, h.len, h.size⟩
def roomB (kind : Int) : Int × Int := if kind = 0 then (28000, 33000) else if kind = 1 then (26000, 67000) else (0, 0)
theorem Room_any (kind : Int) (w : World) : Calls Tryz.prog 17 #[.int .i64 kind] w fun e w' => e = .returned (.tuple #[.int .i64 (roomB kind).1, .int .i64 (roomB kind).2]) ∧ w = w' := by
 by_cases h0 : kind = 0
 ·subst h0
  go_enter Tryz.func17, Tryz.ntmps17
  go_wp2
  go_ret2
  exact ⟨rfl, rfl⟩
 ·by_cases h1 : kind = 1
  ·subst h1
   go_enter Tryz.func17, Tryz.ntmps17
   go_wp2
   go_ret2
   exact ⟨rfl, rfl⟩
  ·have hr := Lib.hid (show roomB kind = (0, 0) by unfold roomB; rw [if_neg h0, if_neg h1])
   have d0 : (kind == 0) = false := by simpa using h0
   have d1 : (kind == 1) = false := by simpa using h1
   clear h0 h1
   go_enter Tryz.func17, Tryz.ntmps17
   go_wp2
   go_ret2
   exact ⟨by rw [hr.out]; rfl, rfl⟩
def goB (gs : List X.S30) (kind : Int) (l : List X.S55) : Bool :=
 decide (0 < (roomB kind).1) && (decide ((sumG gs X.S30.f2 l).2 = 0) && (decide ((sumG gs X.S30.f3 l).2 = 0) && (decide ((sumG gs X.S30.f2 l).1 ≤ (roomB kind).1) && (decide ((sumG gs X.S30.f3 l).1 ≤ (roomB kind).2) && (decide (togB gs l = 0) && decide ((joinB l).length ≤ 8))))))
set_option maxHeartbeats 4000000 in
theorem together_any (t : Nat) (gs : List X.S30) (kind : Int) (A : Option Addr) (c : Nat) (l : List X.S55) (w : World) (ht : TC w t gs) (hr : LC w A l) :
  Calls Tryz.prog 59 #[.pointer (some ⟨t, 0, none⟩), .int .i64 kind, .slice A l.length c] w fun e w' => e = .returned (.bool (goB gs kind l)) ∧ Below w.heap.size w w' := by
 have hG := Lib.hid (show goB gs kind l = _ from rfl)
 have cR := fun w => Room_any kind w
 have cW := Weight_any t gs A c l w ht.tab hr.row (by have := hr.len; omega) hr.size ht.ok
 have cV := fun W (hb : Below w.heap.size w W) => Volume_any t gs A c l W (ht.below hb).tab (hr.below hb).row (by have := hr.len; omega) hr.size ht.ok
 have cT := fun W (hb : Below w.heap.size w W) => Together_any t gs A c l W (ht.below hb).tab (ht.below hb).ap (hr.below hb).row (by have := hr.len; omega) hr.size ht.ok
 have cJ := fun W (hb : Below w.heap.size w W) => Join_any A c l W (hr.below hb).row hr.len hr.size
 clear ht hr
 replace hG : Hid (goB gs kind l = (decide (0 < (roomB kind).1) && (decide ((sumG gs X.S30.f2 l).2 = 0) && (decide ((sumG gs X.S30.f3 l).2 = 0) && (decide ((sumG gs X.S30.f2 l).1 ≤ (roomB kind).1) && (decide ((sumG gs X.S30.f3 l).1 ≤ (roomB kind).2) && (decide (togB gs l = 0) && decide ((joinB l).length ≤ 8)))))))) := Lib.hid rfl
 generalize (roomB kind).1 = rw' at cR hG
 generalize (roomB kind).2 = rv at cR hG
 generalize (sumG gs X.S30.f2 l).1 = wt at cW hG
 generalize (sumG gs X.S30.f2 l).2 = wE at cW hG
 generalize (sumG gs X.S30.f3 l).1 = vl at cV hG
 generalize (sumG gs X.S30.f3 l).2 = vE at cV hG
 generalize togB gs l = tg at cT hG
 generalize joinB l = jl at cJ hG
 by_cases h1 : 0 < rw'
 ·skip
  by_cases h2 : wE = 0
  ·subst h2
   by_cases h3 : vE = 0
   ·subst h3
    by_cases h4 : wt ≤ rw'
    ·skip
     by_cases h5 : vl ≤ rv
     ·skip
      by_cases h6 : tg = 0
      ·subst h6
       by_cases h7 : jl.length ≤ 8
       ·skip
        replace hG : Hid (goB gs kind l = true) := Lib.hid (by rw [hG.out]; simp [h1, h4, h5, h7])
        go_enter Tryz.func59, Tryz.ntmps59
        go_wp2_with fail
        refine (cR _).mono ?_
        rintro e w' ⟨rfl, rfl⟩
        go_wp2_with fail
        refine cW.mono ?_
        rintro e w1 ⟨rfl, hb1⟩
        go_wp2_with fail
        refine (cV _ hb1).mono ?_
        rintro e w2 ⟨rfl, hb2⟩
        have hB2 := below_step hb1 hb2
        go_wp2_with fail
        refine (cT _ hB2).mono ?_
        rintro e w3 ⟨rfl, hb3⟩
        have hB3 := below_step hB2 hb3
        go_wp2_with fail
        refine (cJ _ hB3).mono ?_
        rintro e w4 ⟨v, rfl, hR, hb4⟩
        have hB4 := below_step hB3 hb4
        obtain ⟨A4, c4, rfl⟩ := Kd.R_slice hR
        clear hR
        go_wp2_with fail
        go_ret
        exact ⟨by rw [hG.out]; show Ending.returned (Value.bool (decide ((jl.length : Int) ≤ 8))) = _; rw [decide_eq_true (by omega)], hB4⟩
       ·have hF : Hid (goB gs kind l = false) := Lib.hid (by rw [hG.out]; simp [h7])
        clear hG
        have hG := hF
        clear hF
        go_enter Tryz.func59, Tryz.ntmps59
        go_wp2_with fail
        refine (cR _).mono ?_
        rintro e w' ⟨rfl, rfl⟩
        go_wp2_with fail
        refine cW.mono ?_
        rintro e w1 ⟨rfl, hb1⟩
        go_wp2_with fail
        refine (cV _ hb1).mono ?_
        rintro e w2 ⟨rfl, hb2⟩
        have hB2 := below_step hb1 hb2
        go_wp2_with fail
        refine (cT _ hB2).mono ?_
        rintro e w3 ⟨rfl, hb3⟩
        have hB3 := below_step hB2 hb3
        go_wp2_with fail
        refine (cJ _ hB3).mono ?_
        rintro e w4 ⟨v, rfl, hR, hb4⟩
        have hB4 := below_step hB3 hb4
        obtain ⟨A4, c4, rfl⟩ := Kd.R_slice hR
        clear hR
        go_wp2_with fail
        go_ret
        exact ⟨by rw [hG.out]; show Ending.returned (Value.bool (decide ((jl.length : Int) ≤ 8))) = _; rw [decide_eq_false (by omega)], hB4⟩
      ·have hF : Hid (goB gs kind l = false) := Lib.hid (by rw [hG.out]; simp [h6])
       have d6 : (tg == 0) = false := by simpa using h6
       clear h6
       clear hG
       have hG := hF
       clear hF
       go_enter Tryz.func59, Tryz.ntmps59
       go_wp2_with fail
       refine (cR _).mono ?_
       rintro e w' ⟨rfl, rfl⟩
       go_wp2_with fail
       refine cW.mono ?_
       rintro e w1 ⟨rfl, hb1⟩
       go_wp2_with fail
       refine (cV _ hb1).mono ?_
       rintro e w2 ⟨rfl, hb2⟩
       have hB2 := below_step hb1 hb2
       go_wp2_with fail
       refine (cT _ hB2).mono ?_
       rintro e w3 ⟨rfl, hb3⟩
       have hB3 := below_step hB2 hb3
       go_wp2_with fail
       go_ret
       exact ⟨by rw [hG.out]; rfl, hB3⟩
     ·have hF : Hid (goB gs kind l = false) := Lib.hid (by rw [hG.out]; simp [h5])
      clear hG
      have hG := hF
      clear hF
      go_enter Tryz.func59, Tryz.ntmps59
      go_wp2_with fail
      refine (cR _).mono ?_
      rintro e w' ⟨rfl, rfl⟩
      go_wp2_with fail
      refine cW.mono ?_
      rintro e w1 ⟨rfl, hb1⟩
      go_wp2_with fail
      refine (cV _ hb1).mono ?_
      rintro e w2 ⟨rfl, hb2⟩
      have hB2 := below_step hb1 hb2
      go_wp2_with fail
      go_ret
      exact ⟨by rw [hG.out]; rfl, hB2⟩
    ·have hF : Hid (goB gs kind l = false) := Lib.hid (by rw [hG.out]; simp [h4])
     clear hG
     have hG := hF
     clear hF
     go_enter Tryz.func59, Tryz.ntmps59
     go_wp2_with fail
     refine (cR _).mono ?_
     rintro e w' ⟨rfl, rfl⟩
     go_wp2_with fail
     refine cW.mono ?_
     rintro e w1 ⟨rfl, hb1⟩
     go_wp2_with fail
     refine (cV _ hb1).mono ?_
     rintro e w2 ⟨rfl, hb2⟩
     have hB2 := below_step hb1 hb2
     go_wp2_with fail
     go_ret
     exact ⟨by rw [hG.out]; rfl, hB2⟩
   ·have hF : Hid (goB gs kind l = false) := Lib.hid (by rw [hG.out]; simp [h3])
    have d3 : (vE == 0) = false := by simpa using h3
    clear h3
    clear hG
    have hG := hF
    clear hF
    go_enter Tryz.func59, Tryz.ntmps59
    go_wp2_with fail
    refine (cR _).mono ?_
    rintro e w' ⟨rfl, rfl⟩
    go_wp2_with fail
    refine cW.mono ?_
    rintro e w1 ⟨rfl, hb1⟩
    go_wp2_with fail
    refine (cV _ hb1).mono ?_
    rintro e w2 ⟨rfl, hb2⟩
    have hB2 := below_step hb1 hb2
    go_wp2_with fail
    go_ret
    exact ⟨by rw [hG.out]; rfl, hB2⟩
  ·have hF : Hid (goB gs kind l = false) := Lib.hid (by rw [hG.out]; simp [h2])
   have d2 : (wE == 0) = false := by simpa using h2
   clear h2
   clear hG
   have hG := hF
   clear hF
   go_enter Tryz.func59, Tryz.ntmps59
   go_wp2_with fail
   refine (cR _).mono ?_
   rintro e w' ⟨rfl, rfl⟩
   go_wp2_with fail
   refine cW.mono ?_
   rintro e w1 ⟨rfl, hb1⟩
   go_wp2_with fail
   refine (cV _ hb1).mono ?_
   rintro e w2 ⟨rfl, hb2⟩
   have hB2 := below_step hb1 hb2
   go_wp2_with fail
   go_ret
   exact ⟨by rw [hG.out]; rfl, hB2⟩
 ·have hF : Hid (goB gs kind l = false) := Lib.hid (by rw [hG.out]; simp [h1])
  clear hG
  have hG := hF
  clear hF
  go_enter Tryz.func59, Tryz.ntmps59
  go_wp2_with fail
  refine (cR _).mono ?_
  rintro e w' ⟨rfl, rfl⟩
  go_wp2_with fail
  refine cW.mono ?_
  rintro e w1 ⟨rfl, hb1⟩
  go_wp2_with fail
  refine (cV _ hb1).mono ?_
  rintro e w2 ⟨rfl, hb2⟩
  have hB2 := below_step hb1 hb2
  go_wp2_with fail
  go_ret
  exact ⟨by rw [hG.out]; rfl, hB2⟩
end Go.Proofs.YtfflbeenkfaemaaGreatDoor.Ext
