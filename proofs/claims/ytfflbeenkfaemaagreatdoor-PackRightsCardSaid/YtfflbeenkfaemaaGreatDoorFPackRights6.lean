/- One of the texts of this claim: Ord, Srt, JoinP, Order, Boxes. -/
import Derived.WalkLawsBesides
import Derived.Sort.KeysCollected
import Derived.Test.YtfflbeenkfaemaaGreatDoorFPackRights5
namespace Go.Proofs.YtfflbeenkfaemaaGreatDoor.Ext
open Go.RowKit Go.Proofs.YtfflbeenkfaemaaGreatDoorW.PrintWords Go.Proofs.YtfflbeenkfaemaaGreatDoorW.PrintLast
def kindB (gs : List X.S30) (x : ByteArray) (m : Int) : Int × Bool := if goB gs 0 [⟨x, m⟩] = true then (0, true) else if goB gs 1 [⟨x, 1⟩] = true then (1, true) else (0, goB gs 0 [⟨x, 1⟩])
theorem LC.nil (w : World) : LC w none [] := ⟨⟨rfl, by decide, fun h => absurd h (Nat.lt_irrefl 0)⟩, by simp, fun _ h => by cases h⟩
set_option maxHeartbeats 2000000 in
theorem kind_any (t : Nat) (gs : List X.S30) (x : ByteArray) (m : Int) (w : World) (ht : TC w t gs) (hx : x.size ≤ 9223372036854775807) :
  Calls Tryz.prog 85 #[.pointer (some ⟨t, 0, none⟩), .agg #[.string x, .int .i64 m]] w fun e w' => e = .returned (.tuple #[.int .i64 (kindB gs x m).1, .bool (kindB gs x m).2]) ∧ Below w.heap.size w w' := by
 have hU : Below w.heap.size w ((w.alloc (.cells #[.string x, .int .i64 m] 55)).alloc (.cells #[.string x, .int .i64 1] 55)) := below_alloc (below_alloc (Below.refl _ _) _) _
 have cF := fun (k : Int) (n : Int) W (hW : Below w.heap.size w W) => Fits_any t gs ⟨#[]⟩ k none 0 [] ⟨x, n⟩ W (ht.below hW) (LC.nil _) (by simp) hx
 have hk0 := Lib.hid (fun (h : goB gs 0 [⟨x, m⟩] = true) => show kindB gs x m = (0, true) by unfold kindB; rw [if_pos h])
 have hk1 := Lib.hid (fun (h : goB gs 0 [⟨x, m⟩] = false) (h1 : goB gs 1 [⟨x, 1⟩] = true) => show kindB gs x m = (1, true) by unfold kindB; rw [if_neg (by rw [h]; simp), if_pos h1])
 have hk2 := Lib.hid (fun (h : goB gs 0 [⟨x, m⟩] = false) (h1 : goB gs 1 [⟨x, 1⟩] = false) => show kindB gs x m = (0, goB gs 0 [⟨x, 1⟩]) by unfold kindB; rw [if_neg (by rw [h]; simp), if_neg (by rw [h1]; simp)])
 have c1 := fun W hW => cF 0 m W hW
 have c2 := fun W hW => cF 1 1 W hW
 have c3 := fun W hW => cF 0 1 W hW
 clear cF ht
 unfold lotV at c1 c2 c3
 simp only [List.nil_append, List.length_nil] at c1 c2 c3
 have hbx : ((w.alloc (.cells #[.string x, .int .i64 m] 55)).alloc (.cells #[.string x, .int .i64 1] 55)).heap[w.heap.size]? = some (.cells #[.string x, .int .i64 m] 55 (0, 0)) := blk_alloc (blk_new w _) _
 have hby : ((w.alloc (.cells #[.string x, .int .i64 m] 55)).alloc (.cells #[.string x, .int .i64 1] 55)).heap[w.heap.size + 1]? = some (.cells #[.string x, .int .i64 1] 55 (0, 0)) := by
  have := blk_new (w.alloc (.cells #[.string x, .int .i64 m] 55)) (.cells #[.string x, .int .i64 1] 55)
  simpa using this
 cases h1 : goB gs 0 [⟨x, m⟩] with
 | true =>
  rw [h1] at c1
  have hk := Lib.hid (hk0.out h1)
  clear h1 hk0 hk1 hk2
  go_enter Tryz.func85, Tryz.ntmps85
  go_wp2_with fail
  refine (c1 _ hU).mono ?_
  rintro e w1 ⟨rfl, hb1⟩
  have hB1 := below_step hU hb1
  go_wp2_with fail
  go_ret2
  exact ⟨by rw [hk.out]; rfl, hB1⟩
 | false =>
  rw [h1] at c1
  cases h2 : goB gs 1 [⟨x, 1⟩] with
  | true =>
   rw [h2] at c2
   have hk := Lib.hid (hk1.out h1 h2)
   clear h1 h2 hk0 hk1 hk2
   go_enter Tryz.func85, Tryz.ntmps85
   go_wp2_with fail
   refine (c1 _ hU).mono ?_
   rintro e w1 ⟨rfl, hb1⟩
   have hB1 := below_step hU hb1
   have y0 := (blk_cell (blk_below hby hb1) 0).trans rfl
   have y1 := (blk_cell (blk_below hby hb1) 1).trans rfl
   go_wp2_with fail
   refine (c2 _ hB1).mono ?_
   rintro e w2 ⟨rfl, hb2⟩
   have hB2 := below_step hB1 hb2
   go_wp2_with fail
   go_ret2
   exact ⟨by rw [hk.out]; rfl, hB2⟩
  | false =>
   rw [h2] at c2
   have hk := Lib.hid (hk2.out h1 h2)
   clear h1 h2 hk0 hk1 hk2
   go_enter Tryz.func85, Tryz.ntmps85
   go_wp2_with fail
   refine (c1 _ hU).mono ?_
   rintro e w1 ⟨rfl, hb1⟩
   have hB1 := below_step hU hb1
   have y0 := (blk_cell (blk_below hby hb1) 0).trans rfl
   have y1 := (blk_cell (blk_below hby hb1) 1).trans rfl
   go_wp2_with fail
   refine (c2 _ hB1).mono ?_
   rintro e w2 ⟨rfl, hb2⟩
   have hB2 := below_step hB1 hb2
   clear y0 y1
   have y0 := (blk_cell (blk_below (blk_below hby hb1) hb2) 0).trans rfl
   have y1 := (blk_cell (blk_below (blk_below hby hb1) hb2) 1).trans rfl
   go_wp2_with fail
   refine (c3 _ hB2).mono ?_
   rintro e w3 ⟨rfl, hb3⟩
   have hB3 := below_step hB2 hb3
   go_wp2_with fail
   go_ret2
   exact ⟨by rw [hk.out]; rfl, hB3⟩
set_option maxHeartbeats 2000000 in
theorem Get_any (t : Nat) (gs : List X.S30) (x : ByteArray) (w : World) (ht : TabIn w t gs) (hx : x.size ≤ 9223372036854775807) :
  Calls Tryz.prog 117 #[.pointer (some ⟨t, 0, none⟩), .string x] w fun e w' => e = .returned (.tuple #[goodV (getG gs x), .bool (hasG gs x)]) ∧ Below w.heap.size w w' := by
 have hU : Below w.heap.size w (w.alloc (.cells #[.string ⟨#[]⟩, .int .i64 0, .int .i64 0, .int .i64 0] 30)) := below_alloc (Below.refl _ _) _
 obtain ⟨m, hc, hm⟩ := ht.below hU
 have hc0 := (blk_cell hc 0).trans rfl
 have hlk := hm.look_ok x hx
 generalize getG gs x = g at hlk ⊢
 generalize hasG gs x = b at hlk ⊢
 obtain ⟨g0, g1, g2, g3⟩ := g
 unfold goodV at hlk ⊢
 simp only at hlk ⊢
 clear hm hc ht
 go_enter Tryz.func117, Tryz.ntmps117
 go_wp2_with fail
 exact bodyPost_ret (v := .tuple #[.agg #[.string g0, .int .i64 g1, .int .i64 g2, .int .i64 g3], .bool b]) (by simp [results, Tryz.results117, go_sem]) rfl ⟨rfl, below_alloc (below_alloc (Below.refl _ _) _) _⟩
def cmpI (a b : Int) : Int := if a < b then -1 else if b < a then 1 else 0
theorem isNaN_int (a : Int) (w : World) : Calls Tryz.prog 112 #[.int .i64 a] w fun e w' => e = .returned (.bool false) ∧ w = w' := by
 go_enter Tryz.func112, Tryz.ntmps112
 go_wp2
 go_ret
 exact ⟨by simp, rfl⟩
theorem isNaN_str (a : ByteArray) (w : World) : Calls Tryz.prog 148 #[.string a] w fun e w' => e = .returned (.bool false) ∧ w = w' := by
 go_enter Tryz.func148, Tryz.ntmps148
 go_wp2
 go_ret
 exact ⟨by simp, rfl⟩
theorem Compare_int (a b : Int) (w : World) : Calls Tryz.prog 76 #[.int .i64 a, .int .i64 b] w fun e w' => e = .returned (.int .i64 (cmpI a b)) ∧ w = w' := by
 have n1 := fun w => isNaN_int a w
 have n2 := fun w => isNaN_int b w
 by_cases h1 : a < b
 ·have hc := Lib.hid (show cmpI a b = -1 by unfold cmpI; rw [if_pos h1])
  go_enter Tryz.func76, Tryz.ntmps76
  go_wp2_with fail
  refine (n1 _).mono ?_
  rintro e w' ⟨rfl, rfl⟩
  go_wp2_with fail
  refine (n2 _).mono ?_
  rintro e w' ⟨rfl, rfl⟩
  go_wp2_with fail
  go_ret
  exact ⟨by rw [hc.out]; rfl, rfl⟩
 ·by_cases h2 : b < a
  ·have hc := Lib.hid (show cmpI a b = 1 by unfold cmpI; rw [if_neg h1, if_pos h2])
   go_enter Tryz.func76, Tryz.ntmps76
   go_wp2_with fail
   refine (n1 _).mono ?_
   rintro e w' ⟨rfl, rfl⟩
   go_wp2_with fail
   refine (n2 _).mono ?_
   rintro e w' ⟨rfl, rfl⟩
   go_wp2_with fail
   go_ret
   exact ⟨by rw [hc.out]; rfl, rfl⟩
  ·have hc := Lib.hid (show cmpI a b = 0 by unfold cmpI; rw [if_neg h1, if_neg h2])
   go_enter Tryz.func76, Tryz.ntmps76
   go_wp2_with fail
   refine (n1 _).mono ?_
   rintro e w' ⟨rfl, rfl⟩
   go_wp2_with fail
   refine (n2 _).mono ?_
   rintro e w' ⟨rfl, rfl⟩
   go_wp2_with fail
   go_ret
   exact ⟨by rw [hc.out]; rfl, rfl⟩
/-- cmp.Compare of texts: whatever it is. -/
def cmpS (a b : ByteArray) : Int := if Op.bytesLess a.toList b.toList = true then -1 else if (!(Op.bytesLess a.toList b.toList || a.toList == b.toList)) = true then 1 else 0
theorem Compare_str (a b : ByteArray) (w : World) : Calls Tryz.prog 118 #[.string a, .string b] w fun e w' => e = .returned (.int .i64 (cmpS a b)) ∧ w = w' := by
 have n1 := fun w => isNaN_str a w
 have n2 := fun w => isNaN_str b w
 cases h1 : Op.bytesLess a.toList b.toList with
 | true =>
  have hc := Lib.hid (show cmpS a b = -1 by unfold cmpS; rw [if_pos h1])
  go_enter Tryz.func118, Tryz.ntmps118
  go_wp2_with fail
  refine (n1 _).mono ?_
  rintro e w' ⟨rfl, rfl⟩
  go_wp2_with fail
  refine (n2 _).mono ?_
  rintro e w' ⟨rfl, rfl⟩
  go_wp2_with fail
  go_ret
  exact ⟨by rw [hc.out]; rfl, rfl⟩
 | false =>
  cases h2 : a.toList == b.toList
  all_goals
   have hc := Lib.hid (show cmpS a b = _ by unfold cmpS; rw [h1, h2])
   go_enter Tryz.func118, Tryz.ntmps118
   go_wp2_with fail
   refine (n1 _).mono ?_
   rintro e w' ⟨rfl, rfl⟩
   go_wp2_with fail
   refine (n2 _).mono ?_
   rintro e w' ⟨rfl, rfl⟩
   go_wp2_with fail
   go_ret
   exact ⟨by rw [hc.out]; rfl, rfl⟩
def orB : List Int → Int
 | [] => 0
 | x :: l => if x = 0 then orB l else x
theorem orB_zeros : ∀ (l : List Int) (k : Nat) (_ : ∀ p, p < k → l.getD p 0 = 0), orB l = orB (l.drop k)
 | l, 0, _ => rfl
 | [], k + 1, _ => by simp
 | x :: l, k + 1, h => by
  have h0 := h 0 (by omega)
  have e : orB (x :: l) = orB l := by
   show (if x = 0 then orB l else x) = _
   rw [if_pos (by simpa using h0)]
  rw [e, List.drop_succ_cons]
  exact orB_zeros l k (fun p hp => by have := h (p + 1) (by omega); simpa using this)
theorem orB_hit (l : List Int) (k : Nat) (hk : k < l.length) (h0 : ∀ p, p < k → l.getD p 0 = 0) (h : ¬ l.getD k 0 = 0) : orB l = l.getD k 0 := by
 rw [orB_zeros l k h0, List.drop_eq_getElem_cons hk]
 have e : l.getD k 0 = l[k] := by rw [List.getD_eq_getElem?_getD, List.getElem?_eq_getElem hk]; rfl
 show (if l[k] = 0 then _ else l[k]) = _
 rw [e] at h ⊢
 rw [if_neg h]
set_option maxHeartbeats 2000000 in
theorem Or_any (A : Option Addr) (n c : Nat) (l : List Int) (w : World) (hn : n = l.length) (hr : Kd.C (Kd.int .i64) w A n l) (hl : l.length ≤ 1000) :
  Calls Tryz.prog 74 #[.slice A n c] w fun e w' => e = .returned (.int .i64 (orB l)) ∧ w = w' := by
 replace hn := Lib.hid hn
 have hnl : n ≤ 1000 := by have := hn.out; omega
 go_enter Tryz.func74, Tryz.ntmps74
 go_wp2_with fail
 go_loop [8] (fun v8 => ∃ k : Nat, k ≤ n ∧ v8 = .int .i64 k ∧ Aside (∀ p, p < k → l.getD p 0 = 0)) (fun v8 => n - (intOf v8).toNat)
 case atStart => exact ⟨0, by omega, rfl, fun p hp => absurd hp (Nat.not_lt_zero _)⟩
 case round =>
  obtain ⟨k, hk, rfl, hA⟩ := hrel
  by_cases hlt : k < n
  ·obtain ⟨ad, eA, e0, hz⟩ := int_at hr k hlt hn.out
   subst eA
   have hh := fun h => orB_hit l k (by have := hn.out; omega) hA.out h
   have hs := fun (h : l.getD k 0 = 0) => show Aside (∀ p, p < k + 1 → l.getD p 0 = 0) from fun p hp => by
    rcases Nat.lt_or_ge p k with h2 | h2
    ·exact hA.out p h2
    ·obtain rfl : p = k := by omega
     exact h
   clear hz hA
   generalize l.getD k 0 = z at e0 hh hs
   by_cases hz0 : z = 0
   ·subst hz0
    replace hs := hs rfl
    clear hh
    go_wp2_with fail
    go_round
    case measure => simp [intOf]; omega
    case rel => exact ⟨k + 1, by omega, by go_num, hs⟩
   ·replace hh := Lib.hid (hh hz0)
    have hd : (z != 0) = true := by simpa using hz0
    clear hs hz0
    go_wp2_with fail
    go_ret
    exact ⟨by rw [hh.out]; rfl, rfl⟩
  ·have hE : Hid (orB l = 0) := Lib.hid (by
    have h2 := hn.out
    rw [orB_zeros l k hA.out, List.drop_eq_nil_of_le (by omega)]
    rfl)
   clear hA
   go_wp2_with fail
   go_ret
   exact ⟨by rw [hE.out]; rfl, rfl⟩
def ordB (gs : List X.S30) (a b : X.S55) : Int := orB [cmpI (getG gs b.f0).f3 (getG gs a.f0).f3, cmpI (getG gs b.f0).f2 (getG gs a.f0).f2, cmpS a.f0 b.f0]
theorem C_three (w : World) (g : Nat) (x y z : Int) (h : w.heap[g]? = some (.cells #[.int .i64 x, .int .i64 y, .int .i64 z] 3 (0, 0))) : Kd.C (Kd.int .i64) w (some ⟨g, 0, none⟩) 3 [x, y, z] := by
 refine ⟨rfl, by decide, fun _ => ⟨⟨g, 0, none⟩, rfl, fun j p hj => ⟨[.int .i64 p], rfl, rfl, fun i u hu => ?_⟩⟩⟩
 have hi : i = 0 := by have := (List.getElem?_eq_some_iff.1 hu).1; simp at this; omega
 subst hi
 cases hu
 rw [show ((⟨g, 0, none⟩ : Addr).add (j * (Kd.int .i64).sz + 0)) = ⟨g, j, none⟩ by rw [add0]; show (⟨g, j * 1 + 0, none⟩ : Addr) = _; simp]
 rw [blk_cell h j]
 match j, hj with
 | 0, hj => cases hj; rfl
 | 1, hj => cases hj; rfl
 | 2, hj => cases hj; rfl
 | (j + 3), hj => simp at hj
set_option maxHeartbeats 4000000 in
set_option maxRecDepth 100000 in
theorem ord_any (t : Nat) (gs : List X.S30) (b2 : Nat) (a b : X.S55) (w : World) (ht : TabIn w t gs) (hb2 : w.heap[b2]? = some (.cells #[.pointer (some ⟨t, 0, none⟩)] 31 (0, 0))) (ha : a.f0.size ≤ 9223372036854775807) (hb : b.f0.size ≤ 9223372036854775807) :
  Calls Tryz.prog 116 #[lotV a, lotV b, .pointer (some ⟨b2, 0, none⟩)] w fun e w' => e = .returned (.int .i64 (ordB gs a b)) ∧ Below w.heap.size w w' := by
 obtain ⟨x, xn⟩ := a
 obtain ⟨y, yn⟩ := b
 simp only at ha hb
 unfold lotV ordB
 simp only
 have hU : Below w.heap.size w ((w.alloc (.cells #[.string x, .int .i64 xn] 55)).alloc (.cells #[.string y, .int .i64 yn] 55)) := below_alloc (below_alloc (Below.refl _ _) _) _
 have hx3 : ((w.alloc (.cells #[.string x, .int .i64 xn] 55)).alloc (.cells #[.string y, .int .i64 yn] 55)).heap[w.heap.size]? = some (.cells #[.string x, .int .i64 xn] 55 (0, 0)) := blk_alloc (blk_new w _) _
 have hy4 : ((w.alloc (.cells #[.string x, .int .i64 xn] 55)).alloc (.cells #[.string y, .int .i64 yn] 55)).heap[w.heap.size + 1]? = some (.cells #[.string y, .int .i64 yn] 55 (0, 0)) := by
  have := blk_new (w.alloc (.cells #[.string x, .int .i64 xn] 55)) (.cells #[.string y, .int .i64 yn] 55)
  simpa using this
 have cx := fun W hW => Get_any t gs x W (ht.below (w' := W) hW) ha
 have cy := fun W hW => Get_any t gs y W (ht.below (w' := W) hW) hb
 generalize getG gs x = gx at cx ⊢
 generalize getG gs y = gy at cy ⊢
 obtain ⟨x0, x1, x2, x3⟩ := gx
 obtain ⟨y0, y1, y2, y3⟩ := gy
 unfold goodV at cx cy
 simp only at cx cy ⊢
 have hb2U := blk_below hb2 hU
 have p0 := (blk_cell hb2U 0).trans rfl
 have q0 := (blk_cell hx3 0).trans rfl
 go_enter Tryz.func116, Tryz.ntmps116
 go_wp2_with fail
 refine (cx _ hU).mono ?_
 rintro e w1 ⟨rfl, hb1⟩
 have hB1 := below_step hU hb1
 have p1 := keepw (below_step hb1 (below_alloc (Below.refl _ _) (.cells #[.string x0, .int .i64 x1, .int .i64 x2, .int .i64 x3] 30))) p0
 have hy41 := blk_below hy4 (below_step hb1 (below_alloc (Below.refl _ _) (.cells #[.string x0, .int .i64 x1, .int .i64 x2, .int .i64 x3] 30)))
 have hx31 := blk_below hx3 (below_step hb1 (below_alloc (Below.refl _ _) (.cells #[.string x0, .int .i64 x1, .int .i64 x2, .int .i64 x3] 30)))
 have hg6 := blk_new w1 (.cells #[.string x0, .int .i64 x1, .int .i64 x2, .int .i64 x3] 30)
 have hB1' := below_step hB1 (below_alloc (Below.refl _ _) (.cells #[.string x0, .int .i64 x1, .int .i64 x2, .int .i64 x3] 30))
 have r0 := (blk_cell hy41 0).trans rfl
 clear p0 q0 hb2U
 go_wp2_with fail
 refine (cy _ hB1').mono ?_
 rintro e w2 ⟨rfl, hb2'⟩
 have hB2 := below_step hB1' hb2'
 clear p1 r0
 have hg62 := blk_below hg6 (below_step hb2' (below_alloc (Below.refl _ _) (.cells #[.string y0, .int .i64 y1, .int .i64 y2, .int .i64 y3] 30)))
 have hx32 := blk_below hx31 (below_step hb2' (below_alloc (Below.refl _ _) (.cells #[.string y0, .int .i64 y1, .int .i64 y2, .int .i64 y3] 30)))
 have hy42 := blk_below hy41 (below_step hb2' (below_alloc (Below.refl _ _) (.cells #[.string y0, .int .i64 y1, .int .i64 y2, .int .i64 y3] 30)))
 have hg8 := blk_new w2 (.cells #[.string y0, .int .i64 y1, .int .i64 y2, .int .i64 y3] 30)
 have hB2' := below_step hB2 (below_alloc (Below.refl _ _) (.cells #[.string y0, .int .i64 y1, .int .i64 y2, .int .i64 y3] 30))
 go_wp2_with fail
 clear hg6 hx31 hy41 hx3 hy4 hb1 hb2' hB1 hB1' hB2 hb2 cx cy ht hU
 generalize w2.alloc (.cells #[.string y0, .int .i64 y1, .int .i64 y2, .int .i64 y3] 30) = W0 at hg62 hx32 hy42 hg8 hB2' ⊢
 generalize w1.heap.size = g6 at hg62 ⊢
 generalize w2.heap.size = g8 at hg8 ⊢
 generalize w.heap.size + 1 = g4 at hy42 ⊢
 generalize hg3 : w.heap.size = g3 at hx32 ⊢
 rw [hg3] at hB2'
 have k1 := (blk_cell hg8 3).trans rfl
 have k2 := (blk_cell hg62 3).trans rfl
 have k3 := (blk_cell hg8 2).trans rfl
 have k4 := (blk_cell hg62 2).trans rfl
 have k5 := (blk_cell hx32 0).trans rfl
 have k6 := (blk_cell hy42 0).trans rfl
 refine start_ (n := 18) (S := fun w' => w'.cell? ⟨g8, 3, none⟩ = some (.int .i64 y3) ∧ w'.cell? ⟨g6, 3, none⟩ = some (.int .i64 x3) ∧ w'.cell? ⟨g8, 2, none⟩ = some (.int .i64 y2) ∧ w'.cell? ⟨g6, 2, none⟩ = some (.int .i64 x2) ∧ w'.cell? ⟨g3, 0, none⟩ = some (.string x) ∧ w'.cell? ⟨g4, 0, none⟩ = some (.string y)) (ds := []) (bA 18 0) (by kernel_rfl) rfl rfl ?_ (fun hHeld => ?_)
 ·exact ⟨k1, k2, k3, k4, k5, k6⟩
 have hB3 := below_drew hB2'
 clear k1 k2 k3 k4 k5 k6 hg62 hx32 hy42 hg8 hB2'
 generalize W0.drew = W1 at hHeld hB3 ⊢
 have hS := hHeld
 refine pure_ (i := 0) (N := some 24) (v := ?_) (a' := ?_) (bA 18 1) rfl rfl (by kernel_rfl) (fun _ _ _ h => h) (Or.inl ⟨by rfl, ?_⟩) ?_ ?_
 rotate_left
 ·intro w'
  go_simp
  with_reducible rfl
 rotate_left
 ·simp only [Act.put, List.setIfInBounds_toArray, List.set_cons_zero, List.set_cons_succ]
  rfl
 refine take_ (i := 1) (N := some 25) (v := ?_) (a' := ?_) (bA 18 3) rfl rfl (by kernel_rfl) (fun _ _ _ h => h) (Or.inl ⟨by rfl, ?_⟩) hHeld ?_ ?_
 rotate_left
 ·rintro w' ⟨s0, s1, s2, s3, s4, s5⟩
  go_simp
  with_reducible rfl
 rotate_left
 ·simp only [Act.put, List.setIfInBounds_toArray, List.set_cons_zero, List.set_cons_succ]
  rfl
 refine pure_ (i := 2) (N := some 26) (v := ?_) (a' := ?_) (bA 18 7) rfl rfl (by kernel_rfl) (fun _ _ _ h => h) (Or.inl ⟨by rfl, ?_⟩) ?_ ?_
 rotate_left
 ·intro w'
  go_simp
  with_reducible rfl
 rotate_left
 ·simp only [Act.put, List.setIfInBounds_toArray, List.set_cons_zero, List.set_cons_succ]
  rfl
 refine take_ (i := 3) (N := some 27) (v := ?_) (a' := ?_) (bA 18 15) rfl rfl (by kernel_rfl) (fun _ _ _ h => h) (Or.inl ⟨by rfl, ?_⟩) hHeld ?_ ?_
 rotate_left
 ·rintro w' ⟨s0, s1, s2, s3, s4, s5⟩
  go_simp
  with_reducible rfl
 rotate_left
 ·simp only [Act.put, List.setIfInBounds_toArray, List.set_cons_zero, List.set_cons_succ]
  rfl
 refine pure_ (i := 5) (N := some 29) (v := ?_) (a' := ?_) (bA 18 47) rfl rfl (by kernel_rfl) (fun _ _ _ h => h) (Or.inl ⟨by rfl, ?_⟩) ?_ ?_
 rotate_left
 ·intro w'
  go_simp
  with_reducible rfl
 rotate_left
 ·simp only [Act.put, List.setIfInBounds_toArray, List.set_cons_zero, List.set_cons_succ]
  rfl
 refine take_ (i := 6) (N := some 30) (v := ?_) (a' := ?_) (bA 18 111) rfl rfl (by kernel_rfl) (fun _ _ _ h => h) (Or.inl ⟨by rfl, ?_⟩) hHeld ?_ ?_
 rotate_left
 ·rintro w' ⟨s0, s1, s2, s3, s4, s5⟩
  go_simp
  with_reducible rfl
 rotate_left
 ·simp only [Act.put, List.setIfInBounds_toArray, List.set_cons_zero, List.set_cons_succ]
  rfl
 refine pure_ (i := 7) (N := some 31) (v := ?_) (a' := ?_) (bA 18 239) rfl rfl (by kernel_rfl) (fun _ _ _ h => h) (Or.inl ⟨by rfl, ?_⟩) ?_ ?_
 rotate_left
 ·intro w'
  go_simp
  with_reducible rfl
 rotate_left
 ·simp only [Act.put, List.setIfInBounds_toArray, List.set_cons_zero, List.set_cons_succ]
  rfl
 refine take_ (i := 8) (N := some 32) (v := ?_) (a' := ?_) (bA 18 495) rfl rfl (by kernel_rfl) (fun _ _ _ h => h) (Or.inl ⟨by rfl, ?_⟩) hHeld ?_ ?_
 rotate_left
 ·rintro w' ⟨s0, s1, s2, s3, s4, s5⟩
  go_simp
  with_reducible rfl
 rotate_left
 ·simp only [Act.put, List.setIfInBounds_toArray, List.set_cons_zero, List.set_cons_succ]
  rfl
 refine pure_ (i := 10) (N := some 34) (v := ?_) (a' := ?_) (bA 18 1519) rfl rfl (by kernel_rfl) (fun _ _ _ h => h) (Or.inl ⟨by rfl, ?_⟩) ?_ ?_
 rotate_left
 ·intro w'
  go_simp
  with_reducible rfl
 rotate_left
 ·simp only [Act.put, List.setIfInBounds_toArray, List.set_cons_zero, List.set_cons_succ]
  rfl
 refine take_ (i := 11) (N := some 35) (v := ?_) (a' := ?_) (bA 18 3567) rfl rfl (by kernel_rfl) (fun _ _ _ h => h) (Or.inl ⟨by rfl, ?_⟩) hHeld ?_ ?_
 rotate_left
 ·rintro w' ⟨s0, s1, s2, s3, s4, s5⟩
  go_simp
  with_reducible rfl
 rotate_left
 ·simp only [Act.put, List.setIfInBounds_toArray, List.set_cons_zero, List.set_cons_succ]
  rfl
 refine pure_ (i := 12) (N := some 36) (v := ?_) (a' := ?_) (bA 18 7663) rfl rfl (by kernel_rfl) (fun _ _ _ h => h) (Or.inl ⟨by rfl, ?_⟩) ?_ ?_
 rotate_left
 ·intro w'
  go_simp
  with_reducible rfl
 rotate_left
 ·simp only [Act.put, List.setIfInBounds_toArray, List.set_cons_zero, List.set_cons_succ]
  rfl
 refine take_ (i := 13) (N := some 37) (v := ?_) (a' := ?_) (bA 18 15855) rfl rfl (by kernel_rfl) (fun _ _ _ h => h) (Or.inl ⟨by rfl, ?_⟩) hHeld ?_ ?_
 rotate_left
 ·rintro w' ⟨s0, s1, s2, s3, s4, s5⟩
  go_simp
  with_reducible rfl
 rotate_left
 ·simp only [Act.put, List.setIfInBounds_toArray, List.set_cons_zero, List.set_cons_succ]
  rfl
 refine one_ (i := 4) (N := some 28) (bA 18 15871) rfl rfl (by kernel_rfl) (by decide) (fun K hK => ?_)
 refine goes_ Tryz.func76 (by kernel_rfl) rfl #[.int .i64 y3, .int .i64 x3] (by rfl) rfl rfl (by (try simp only [List.map_toArray, List.map_cons, List.map_nil]); first | done | rfl) ?_
 refine (Compare_int y3 x3 _).mono ?_
 rintro e w' ⟨rfl, rfl⟩
 refine ⟨_, rfl, ?_⟩
 refine hK.out _ _ hS (fun hHeld => ?_)
 clear hK K
 refine norm_ (a' := ?_) ?_ ?_
 rotate_left
 ·show Act.put _ (some 28) _ = _
  simp only [Act.put, List.setIfInBounds_toArray, List.set_cons_zero, List.set_cons_succ]
  rfl
 refine one_ (i := 9) (N := some 33) (bA 18 16383) rfl rfl (by kernel_rfl) (by decide) (fun K hK => ?_)
 refine goes_ Tryz.func76 (by kernel_rfl) rfl #[.int .i64 y2, .int .i64 x2] (by rfl) rfl rfl (by (try simp only [List.map_toArray, List.map_cons, List.map_nil]); first | done | rfl) ?_
 refine (Compare_int y2 x2 _).mono ?_
 rintro e w' ⟨rfl, rfl⟩
 refine ⟨_, rfl, ?_⟩
 refine hK.out _ _ hS (fun hHeld => ?_)
 clear hK K
 refine norm_ (a' := ?_) ?_ ?_
 rotate_left
 ·show Act.put _ (some 33) _ = _
  simp only [Act.put, List.setIfInBounds_toArray, List.set_cons_zero, List.set_cons_succ]
  rfl
 refine one_ (i := 14) (N := some 38) (bA 18 32767) rfl rfl (by kernel_rfl) (by decide) (fun K hK => ?_)
 refine goes_ Tryz.func118 (by kernel_rfl) rfl #[.string x, .string y] (by rfl) rfl rfl (by (try simp only [List.map_toArray, List.map_cons, List.map_nil]); first | done | rfl) ?_
 refine (Compare_str x y _).mono ?_
 rintro e w' ⟨rfl, rfl⟩
 refine ⟨_, rfl, ?_⟩
 refine hK.out _ _ hS (fun hHeld => ?_)
 clear hK K
 refine norm_ (a' := ?_) ?_ ?_
 rotate_left
 ·show Act.put _ (some 38) _ = _
  simp only [Act.put, List.setIfInBounds_toArray, List.set_cons_zero, List.set_cons_succ]
  rfl
 refine one_ (i := 15) (N := some 39) (bA 18 65535) rfl rfl (by kernel_rfl) (by decide) (fun K hK => ?_)
 refine value_ (by rfl) rfl (by go_simp; first | done | exact ⟨rfl, rfl⟩ | rfl) ?_
 have hU3 : Below W1.heap.size W1 (W1.alloc (.cells #[.int .i64 (cmpI y3 x3), .int .i64 (cmpI y2 x2), .int .i64 (cmpS x y)] 3)) := below_alloc (Below.refl _ _) _
 have hn3 := blk_new W1 (.cells #[.int .i64 (cmpI y3 x3), .int .i64 (cmpI y2 x2), .int .i64 (cmpS x y)] 3)
 have hB4 := hB3.trans (hU3.mono (by rw [← hg3]; exact hB3.size))
 generalize W1.alloc (.cells #[.int .i64 (cmpI y3 x3), .int .i64 (cmpI y2 x2), .int .i64 (cmpS x y)] 3) = W3 at hU3 hn3 hB4 ⊢
 refine hK.out _ _ ⟨keepw hU3 hS.1, keepw hU3 hS.2.1, keepw hU3 hS.2.2.1, keepw hU3 hS.2.2.2.1, keepw hU3 hS.2.2.2.2.1, keepw hU3 hS.2.2.2.2.2⟩ (fun hHeld => ?_)
 clear hK K
 refine norm_ (a' := ?_) ?_ ?_
 rotate_left
 ·show Act.put _ (some 39) _ = _
  simp only [Act.put, List.setIfInBounds_toArray, List.set_cons_zero, List.set_cons_succ]
  rfl
 refine one_ (i := 16) (N := some 40) (bA 18 131071) rfl rfl (by kernel_rfl) (by decide) (fun K hK => ?_)
 refine goes_ Tryz.func74 (by kernel_rfl) rfl #[.slice (some ⟨W1.heap.size, 0, none⟩) 3 3] (by rfl) rfl rfl (by (try simp only [List.map_toArray, List.map_cons, List.map_nil]); first | done | rfl) ?_
 refine (Or_any _ 3 3 [cmpI y3 x3, cmpI y2 x2, cmpS x y] _ rfl (C_three _ _ _ _ _ hn3) (by simp)).mono ?_
 rintro e w' ⟨rfl, rfl⟩
 refine ⟨_, rfl, ?_⟩
 refine hK.out _ _ hHeld (fun hHeld => ?_)
 clear hK K
 refine norm_ (a' := ?_) ?_ ?_
 rotate_left
 ·show Act.put _ (some 40) _ = _
  simp only [Act.put, List.setIfInBounds_toArray, List.set_cons_zero, List.set_cons_succ]
  rfl
 refine pure_ (i := 17) (N := some 5) (v := ?_) (a' := ?_) (bA 18 262143) rfl rfl (by kernel_rfl) (fun _ _ _ h => h) (Or.inl ⟨by rfl, ?_⟩) ?_ ?_
 rotate_left
 ·intro w'
  go_simp
  with_reducible rfl
 rotate_left
 ·simp only [Act.put, List.setIfInBounds_toArray, List.set_cons_zero, List.set_cons_succ]
  rfl
 refine done_ (by kernel_rfl) ?_
 clear hHeld hS
 go_wp2_with fail
 go_ret
 exact ⟨rfl, by rw [hg3]; exact hB4⟩
end Go.Proofs.YtfflbeenkfaemaaGreatDoor.Ext
namespace Go.Proofs.YtfflbeenkfaemaaGreatDoor.Ext
open Go.RowKit Go.Proofs.YtfflbeenkfaemaaGreatDoorW.PrintWords Go.Proofs.YtfflbeenkfaemaaGreatDoorW.PrintLast
def rdL (l : List X.S55) (i : Nat) : X.S55 := X.rd_T55 l (i : Int)
def sinkB (cf : X.S55 → X.S55 → Int) : Nat → List X.S55 → List X.S55
 | 0, l => l
 | j + 1, l => if cf (rdL l (j + 1)) (rdL l j) < 0 then sinkB cf j ((l.set (j + 1) (rdL l j)).set j (rdL l (j + 1))) else l
def insTo (cf : X.S55 → X.S55 → Int) (l : List X.S55) : Nat → List X.S55
 | 0 => l
 | i + 1 => sinkB cf (i + 1) (insTo cf l i)
def sortB (cf : X.S55 → X.S55 → Int) (l : List X.S55) : List X.S55 := insTo cf l (l.length - 1)
theorem rdL_eq (l : List X.S55) (i : Nat) (h : i < l.length) : rdL l i = l[i] := rd_eq l i h
theorem swap_perm (l : List X.S55) (j : Nat) (h : j + 1 < l.length) : ((l.set (j + 1) (rdL l j)).set j (rdL l (j + 1))).Perm l := by
 rw [rdL_eq l j (by omega), rdL_eq l (j + 1) h]
 exact List.set_set_perm h (by omega)
theorem sinkB_perm (cf : X.S55 → X.S55 → Int) : ∀ (j : Nat) (l : List X.S55) (_ : j < l.length), (sinkB cf j l).Perm l
 | 0, l, _ => List.Perm.refl _
 | j + 1, l, h => by
  unfold sinkB
  split
  ·have hp := swap_perm l j h
   exact (sinkB_perm cf j _ (by rw [hp.length_eq]; omega)).trans hp
  ·exact List.Perm.refl _
theorem insTo_perm (cf : X.S55 → X.S55 → Int) (l : List X.S55) : ∀ (i : Nat) (_ : i ≤ l.length - 1), (insTo cf l i).Perm l
 | 0, _ => List.Perm.refl _
 | i + 1, h => by
  have h1 := insTo_perm cf l i (by omega)
  exact (sinkB_perm cf (i + 1) _ (by rw [h1.length_eq]; omega)).trans h1
theorem sortB_perm (cf : X.S55 → X.S55 → Int) (l : List X.S55) : (sortB cf l).Perm l := insTo_perm cf l _ (Nat.le_refl _)
theorem sink_step (cf : X.S55 → X.S55 → Int) (q : Nat) (l : List X.S55) (h : cf (rdL l (q + 1)) (rdL l q) < 0) : sinkB cf (q + 1) l = sinkB cf q ((l.set (q + 1) (rdL l q)).set q (rdL l (q + 1))) := by
 show (if _ then _ else _) = _
 rw [if_pos h]
theorem sink_stop (cf : X.S55 → X.S55 → Int) (q : Nat) (l : List X.S55) (h : ¬ cf (rdL l (q + 1)) (rdL l q) < 0) : sinkB cf (q + 1) l = l := by
 show (if _ then _ else _) = _
 rw [if_neg h]
/-- An element of a row of the call's own is written. -/
theorem elem_both {W : World} {base : Nat} {o : Oper} {a : Act} {p y : Operand} (ho : o.op = .store 55 p y) {g n cap : Nat} (i : Nat) {xs : List X.S55} (x : ByteArray) (m : Int) {ok : Nat → Prop}
  (haddr : a.eval p = .pointer (some ⟨g, i * 2, none⟩)) (hy : a.eval y = .agg #[.string x, .int .i64 m]) (HO : Kd.R X.k55 55 W base ok (.slice (some ⟨g, 0, none⟩) n cap) xs) (hi : i < n) :
  (execOp a.eval o).run Tryz.prog W = .ok .skip (W.setCells g (i * 2) [.string x, .int .i64 m]) ∧ Kd.R X.k55 55 (W.setCells g (i * 2) [.string x, .int .i64 m]) base ok (.slice (some ⟨g, 0, none⟩) n cap) (xs.set i ⟨x, m⟩) ∧ W.grownBy (W.setCells g (i * 2) [.string x, .int .i64 m]) (some g) := by
 obtain ⟨ad, c, eA, hcl, hK, hcc⟩ := Kd.C_get (Kd.R_reads' HO).2.2 (⟨⟨#[]⟩, 0⟩ : X.S55) (i : Int) (by omega) (by have := (Kd.R_reads' HO).1; omega)
 obtain rfl : (⟨g, 0, none⟩ : Addr) = ad := Option.some.inj eA
 have hcc' : ∀ j u, c[j]? = some u → W.cell? ⟨g, i * X.k55.sz + j, none⟩ = some u := fun j u hu => by
  have := hcc j u hu
  rw [add0, Int.toNat_natCast] at this
  exact this
 exact store_run (d := X.k55) (P := Tryz.prog) (o := o) (a := a) (t := 55) (p := p) (x := y) (u := .agg #[.string x, .int .i64 m]) (o' := i * 2) ho i 0 (⟨x, m⟩ : X.S55) [.string x, .int .i64 m] c (fun _ => False) haddr rfl hy rfl (by kernel_rfl)
  (by intro q hq; simp at hq; rcases hq with rfl | rfl <;> rfl) HO hi hcl hcc' (by show 0 + 2 ≤ 2; omega) (by
   have hl : c.length = 2 := hcl
   have : c.take 0 ++ [Value.string x, .int .i64 m] ++ c.drop (0 + 2) = [.string x, .int .i64 m] := by simp [List.drop_eq_nil_of_le, hl]
   show X.k55.M _ _ _ _ (c.take 0 ++ [Value.string x, .int .i64 m] ++ c.drop (0 + 2))
   rw [this]
   exact X.k55_mkM _ _ _ (⟨x, m⟩ : X.S55)) (fun _ hk => hk.elim)
/-- An oper that stores slot y at slot p. -/
def stO (p y : Tmp) : Oper := { dst := none, op := .store 55 (.tmp p) (.tmp y), type := 0, pos := "", after := #[], guard := none }
theorem elem_set {W : World} {base : Nat} {g n cap : Nat} (i : Nat) {xs : List X.S55} (x : ByteArray) (m : Int) {ok : Nat → Prop} (HO : Kd.R X.k55 55 W base ok (.slice (some ⟨g, 0, none⟩) n cap) xs) (hi : i < n) :
  Kd.R X.k55 55 (W.setCells g (i * 2) [.string x, .int .i64 m]) base ok (.slice (some ⟨g, 0, none⟩) n cap) (xs.set i ⟨x, m⟩) ∧ W.grownBy (W.setCells g (i * 2) [.string x, .int .i64 m]) (some g) :=
 (elem_both (o := stO 0 1) (a := ⟨#[.pointer (some ⟨g, i * 2, none⟩), .agg #[.string x, .int .i64 m]], []⟩) (p := .tmp 0) (y := .tmp 1) rfl i x m rfl rfl HO hi).2
set_option maxHeartbeats 8000000 in
set_option maxRecDepth 100000 in
theorem insertion_any (cg : Nat) (lb : Array Value) (eg : ∀ args w, (callFunc cg args).run Tryz.prog w = .ok (.enter cg args) w) (cf : X.S55 → X.S55 → Int) (base g n c : Nat) (l : List X.S55) (Inv : World → Prop)
  (hI1 : ∀ W W', Inv W → Below W.heap.size W W' → Inv W') (hI2 : ∀ W W', Inv W → W.grownBy W' (some g) → Inv W')
  (hp : ∀ x y : X.S55, x.f0.size ≤ 9223372036854775807 → y.f0.size ≤ 9223372036854775807 → ∀ W, Inv W → Calls Tryz.prog cg (#[lotV x, lotV y] ++ lb) W fun e w' => e = .returned (.int .i64 (cf x y)) ∧ Below W.heap.size W w')
  (hn : n = l.length) (hl : n ≤ 100000) (hs : ∀ x ∈ l, x.f0.size ≤ 9223372036854775807) (w : World) (hI : Inv w) (HO : Kd.R X.k55 55 w base (fun _ => True) (.slice (some ⟨g, 0, none⟩) n c) l) :
  Calls Tryz.prog 172 #[.slice (some ⟨g, 0, none⟩) n c, .int .i64 0, .int .i64 (n : Int), .func (.func cg) #[] lb] w fun e w' => e = .returned (.tuple #[]) ∧ Inv w' ∧ Kd.R X.k55 55 w' base (fun _ => True) (.slice (some ⟨g, 0, none⟩) n c) (sortB cf l) := by
 generalize hA3 : (⟨g, 0, none⟩ : Addr) = ad at HO ⊢
 replace hn := Lib.hid hn
 go_enter Tryz.func172, Tryz.ntmps172
 go_wp2_with fail
 go_loopw [8] (fun v8 wr => ∃ k : Nat, (k = 0 ∨ k + 1 ≤ n) ∧ v8 = .int .i64 ((k : Int) + 1) ∧ Aside (Inv wr ∧ Kd.R X.k55 55 wr base (fun _ => True) (.slice (some ad) n c) (insTo cf l k))) (fun v8 _ => n + 1 - (intOf v8).toNat)
 case atStart => exact ⟨0, .inl rfl, by simp, ⟨hI, HO⟩⟩
 case round =>
  obtain ⟨k, hk, rfl, hI3, HO3⟩ := hrel
  by_cases hlt : k + 1 < n
  ·have hlt' : (k : Int) + 1 < (n : Int) := by omega
   have hperm := insTo_perm cf l k (by have := hn.out; omega)
   have hst : Aside (sinkB cf (k + 1) (insTo cf l k) = insTo cf l (k + 1)) := rfl
   have hlen : (insTo cf l k).length = n := by rw [hperm.length_eq]; exact hn.out.symm
   have hsz : ∀ x ∈ insTo cf l k, x.f0.size ≤ 9223372036854775807 := fun x hx => hs x (hperm.mem_iff.1 hx)
   generalize insTo cf l k = cur0 at HO3 hst hlen hsz
   clear hperm
   generalize hwo : wr = wo at *
   clear hwo
   go_wp2_with fail
   go_loopw [9] (fun v9 w2 => ∃ j : Nat, ∃ cur : List X.S55, j ≤ k + 1 ∧ v9 = .int .i64 (j : Int) ∧ Aside (sinkB cf j cur = insTo cf l (k + 1) ∧ cur.length = n ∧ (∀ x ∈ cur, x.f0.size ≤ 9223372036854775807) ∧ Inv w2 ∧ Kd.R X.k55 55 w2 base (fun _ => True) (.slice (some ad) n c) cur)) (fun v9 _ => (intOf v9).toNat)
   case atStart => exact ⟨k + 1, cur0, by omega, by simp, ⟨hst.out, hlen, hsz, hI3, HO3⟩⟩
   case round =>
    obtain ⟨j, cur, hj, rfl, hst2, hlen2, hsz2, hI4, HO4⟩ := hrel
    clear hst hlen hsz hI3 HO3
    by_cases hj0 : 0 < j
    ·obtain ⟨q, rfl⟩ : ∃ q, j = q + 1 := ⟨j - 1, by omega⟩
     have hC := (Kd.R_reads' HO4).2.2
     have hqn : q + 1 < n := by omega
     obtain ⟨ad1, eA1, f0, f1⟩ := X.at_T55 hC ((q + 1 : Nat) : Int) (by omega) (by omega)
     obtain ⟨ad2, eA2, h0, h1⟩ := X.at_T55 hC (q : Int) (by omega) (by omega)
     cases eA1
     cases eA2
     have hm1 := hsz2 _ (List.mem_of_getElem? (rd_at cur (q + 1) (by omega)))
     have hm2 := hsz2 _ (List.mem_of_getElem? (rd_at cur q (by omega)))
     have hstep := fun h => (sink_step cf q cur h).symm.trans hst2
     have hstop := fun h => (sink_stop cf q cur h).symm.trans hst2
     have hsw := swap_perm cur q (by omega)
     unfold rdL at hstep hstop hsw
     clear hst2 hC
     simp only [Int.toNat_natCast] at f0 f1 h0 h1
     generalize X.rd_T55 cur ((q + 1 : Nat) : Int) = za at f0 f1 hm1 hstep hstop hsw
     generalize X.rd_T55 cur (q : Int) = zb at h0 h1 hm2 hstep hstop hsw
     obtain ⟨x, xn⟩ := za
     obtain ⟨y, yn⟩ := zb
     simp only at f0 f1 h0 h1 hm1 hm2
     have hcall := fun W hW => hp ⟨x, xn⟩ ⟨y, yn⟩ hm1 hm2 W hW
     unfold lotV at hcall
     generalize hcf : cf ⟨x, xn⟩ ⟨y, yn⟩ = cv at hcall hstep hstop
     clear hcf
     obtain ⟨J, hJ⟩ : ∃ J : Int, J = ((q + 1 : Nat) : Int) := ⟨_, rfl⟩
     have hJs : IntKind.i64.wrap (J - 1) = (q : Int) := by rw [hJ]; rw [IntWalk.i64_in _ (by omega)]; omega
     have hJ0 : 0 < J := by omega
     have hJ1 : 0 ≤ J := by omega
     have hJn : J < (n : Int) := by omega
     have hJt : J.toNat = q + 1 := by omega
     have hq0 : (0 : Int) ≤ (q : Int) := by omega
     have hqn' : (q : Int) < (n : Int) := by omega
     replace hsw := Lib.hid hsw
     replace hstep := Lib.hid hstep
     replace hstop := Lib.hid hstop
     rw [← hJ]
     replace hJ := Lib.hid hJ
     go_wp2_with fail
     have hDr : Below wr.heap.size wr wr.drew := below_drew (Below.refl _ _)
     have f0' := keepw hDr f0
     have f1' := keepw hDr f1
     have h0' := keepw hDr h0
     have h1' := keepw hDr h1
     have hI5 := hI1 _ _ hI4 hDr
     have HO5 := Kd.R_below HO4 hDr
     clear f0 f1 h0 h1 hI4 HO4 hDr
     refine start_ (n := 17) (S := fun w' => w'.cell? (ad.add ((q + 1) * 2)) = some (.string x) ∧ w'.cell? ⟨(ad.add ((q + 1) * 2)).block, (ad.add ((q + 1) * 2)).off + 1, none⟩ = some (.int .i64 xn) ∧ w'.cell? (ad.add (q * 2)) = some (.string y) ∧ w'.cell? ⟨(ad.add (q * 2)).block, (ad.add (q * 2)).off + 1, none⟩ = some (.int .i64 yn)) (ds := []) (bA 17 0) (by kernel_rfl) rfl rfl ?_ (fun hHeld => ?_)
     ·exact ⟨f0', f1', h0', h1'⟩
     generalize wr.drew = W1 at hHeld f0' f1' h0' h1' hI5 HO5 ⊢
     refine pure_ (i := 0) (N := some 18) (v := ?_) (a' := ?_) (bA 17 1) rfl rfl (by kernel_rfl) (fun _ _ _ h => h) (Or.inl ⟨by rfl, ?_⟩) ?_ ?_
     rotate_left
     ·intro w'
      go_simp
      with_reducible rfl
     rotate_left
     ·simp only [Act.put, List.setIfInBounds_toArray, List.set_cons_zero, List.set_cons_succ]
      rfl
     refine pure_ (i := 1) (N := some 19) (v := ?_) (a' := ?_) (bA 17 3) rfl rfl (by kernel_rfl) (fun _ _ _ h => h) (Or.inl ⟨by rfl, ?_⟩) ?_ ?_
     rotate_left
     ·intro w'
      go_simp
      with_reducible rfl
     rotate_left
     ·simp only [Act.put, List.setIfInBounds_toArray, List.set_cons_zero, List.set_cons_succ]
      rfl
     refine pure_ (i := 2) (N := some 20) (v := ?_) (a' := ?_) (bA 17 7) rfl rfl (by kernel_rfl) (fun _ _ _ h => h) (Or.inl ⟨by rfl, ?_⟩) ?_ ?_
     rotate_left
     ·intro w'
      go_simp
      with_reducible rfl
     rotate_left
     ·simp only [Act.put, List.setIfInBounds_toArray, List.set_cons_zero, List.set_cons_succ]
      rfl
     refine pure_ (i := 3) (N := some 21) (v := ?_) (a' := ?_) (bA 17 15) rfl rfl (by kernel_rfl) (fun _ _ _ h => h) (Or.inl ⟨by rfl, ?_⟩) ?_ ?_
     rotate_left
     ·intro w'
      go_simp
      with_reducible rfl
     rotate_left
     ·simp only [Act.put, List.setIfInBounds_toArray, List.set_cons_zero, List.set_cons_succ]
      rfl
     refine pure_ (i := 4) (N := some 22) (v := ?_) (a' := ?_) (bA 17 31) rfl rfl (by kernel_rfl) (fun _ _ _ h => h) (Or.inl ⟨by rfl, ?_⟩) ?_ ?_
     rotate_left
     ·intro w'
      go_simp
      with_reducible rfl
     rotate_left
     ·simp only [Act.put, List.setIfInBounds_toArray, List.set_cons_zero, List.set_cons_succ]
      rfl
     refine pure_ (i := 5) (N := some 23) (v := ?_) (a' := ?_) (bA 17 63) rfl rfl (by kernel_rfl) (fun _ _ _ h => h) (Or.inl ⟨by rfl, ?_⟩) ?_ ?_
     rotate_left
     ·intro w'
      go_simp
      with_reducible rfl
     rotate_left
     ·simp only [Act.put, List.setIfInBounds_toArray, List.set_cons_zero, List.set_cons_succ]
      rfl
     refine pure_ (i := 6) (N := some 24) (v := ?_) (a' := ?_) (bA 17 127) rfl rfl (by kernel_rfl) (fun _ _ _ h => h) (Or.inl ⟨by rfl, ?_⟩) ?_ ?_
     rotate_left
     ·intro w'
      go_simp
      with_reducible rfl
     rotate_left
     ·simp only [Act.put, List.setIfInBounds_toArray, List.set_cons_zero, List.set_cons_succ]
      rfl
     refine pure_ (i := 7) (N := some 25) (v := ?_) (a' := ?_) (bA 17 255) rfl rfl (by kernel_rfl) (fun _ _ _ h => h) (Or.inl ⟨by rfl, ?_⟩) ?_ ?_
     rotate_left
     ·intro w'
      go_simp
      with_reducible rfl
     rotate_left
     ·simp only [Act.put, List.setIfInBounds_toArray, List.set_cons_zero, List.set_cons_succ]
      rfl
     refine take_ (i := 8) (N := some 26) (v := ?_) (a' := ?_) (bA 17 511) rfl rfl (by kernel_rfl) (fun _ _ _ h => h) (Or.inl ⟨by rfl, ?_⟩) hHeld ?_ ?_
     rotate_left
     ·rintro w' ⟨s0, s1, s2, s3⟩
      go_simp
      with_reducible rfl
     rotate_left
     ·simp only [Act.put, List.setIfInBounds_toArray, List.set_cons_zero, List.set_cons_succ]
      rfl
     refine pure_ (i := 9) (N := some 27) (v := ?_) (a' := ?_) (bA 17 1023) rfl rfl (by kernel_rfl) (fun _ _ _ h => h) (Or.inl ⟨by rfl, ?_⟩) ?_ ?_
     rotate_left
     ·intro w'
      go_simp
      with_reducible rfl
     rotate_left
     ·simp only [Act.put, List.setIfInBounds_toArray, List.set_cons_zero, List.set_cons_succ]
      rfl
     refine pure_ (i := 10) (N := some 28) (v := ?_) (a' := ?_) (bA 17 2047) rfl rfl (by kernel_rfl) (fun _ _ _ h => h) (Or.inl ⟨by rfl, ?_⟩) ?_ ?_
     rotate_left
     ·intro w'
      go_simp
      with_reducible rfl
     rotate_left
     ·simp only [Act.put, List.setIfInBounds_toArray, List.set_cons_zero, List.set_cons_succ]
      rfl
     refine pure_ (i := 11) (N := some 29) (v := ?_) (a' := ?_) (bA 17 4095) rfl rfl (by kernel_rfl) (fun _ _ _ h => h) (Or.inl ⟨by rfl, ?_⟩) ?_ ?_
     rotate_left
     ·intro w'
      go_simp
      with_reducible rfl
     rotate_left
     ·simp only [Act.put, List.setIfInBounds_toArray, List.set_cons_zero, List.set_cons_succ]
      rfl
     refine pure_ (i := 12) (N := some 30) (v := ?_) (a' := ?_) (bA 17 8191) rfl rfl (by kernel_rfl) (fun _ _ _ h => h) (Or.inl ⟨by rfl, ?_⟩) ?_ ?_
     rotate_left
     ·intro w'
      go_simp
      with_reducible rfl
     rotate_left
     ·simp only [Act.put, List.setIfInBounds_toArray, List.set_cons_zero, List.set_cons_succ]
      rfl
     refine take_ (i := 13) (N := some 31) (v := ?_) (a' := ?_) (bA 17 16383) rfl rfl (by kernel_rfl) (fun _ _ _ h => h) (Or.inl ⟨by rfl, ?_⟩) hHeld ?_ ?_
     rotate_left
     ·rintro w' ⟨s0, s1, s2, s3⟩
      go_simp
      with_reducible rfl
     rotate_left
     ·simp only [Act.put, List.setIfInBounds_toArray, List.set_cons_zero, List.set_cons_succ]
      rfl
     refine one_ (i := 14) (N := some 32) (bA 17 32767) rfl rfl (by kernel_rfl) (by decide) (fun K hK => ?_)
     refine goesV_ eg #[.agg #[.string x, .int .i64 xn], .agg #[.string y, .int .i64 yn]] (by rfl) rfl rfl rfl (by (try simp only [List.map_toArray, List.map_cons, List.map_nil]); first | done | rfl) ?_
     refine (hcall _ hI5).mono ?_
     rintro e W2 ⟨rfl, hb⟩
     refine ⟨_, rfl, ?_⟩
     refine hK.out _ _ ⟨keepw hb f0', keepw hb f1', keepw hb h0', keepw hb h1'⟩ (fun hHeld => ?_)
     clear hK K
     refine norm_ (a' := ?_) ?_ ?_
     rotate_left
     ·show Act.put _ (some 32) _ = _
      simp only [Act.put, List.setIfInBounds_toArray, List.set_cons_zero, List.set_cons_succ]
      rfl
     refine pure_ (i := 15) (N := some 33) (v := ?_) (a' := ?_) (bA 17 65535) rfl rfl (by kernel_rfl) (fun _ _ _ h => h) (Or.inl ⟨by rfl, ?_⟩) ?_ ?_
     rotate_left
     ·intro w'
      go_simp
      with_reducible rfl
     rotate_left
     ·simp only [Act.put, List.setIfInBounds_toArray, List.set_cons_zero, List.set_cons_succ]
      rfl
     refine pure_ (i := 16) (N := some 34) (v := ?_) (a' := ?_) (bA 17 131071) rfl rfl (by kernel_rfl) (fun _ _ _ h => h) (Or.inl ⟨by rfl, ?_⟩) ?_ ?_
     rotate_left
     ·intro w'
      go_simp
      with_reducible rfl
     rotate_left
     ·simp only [Act.put, List.setIfInBounds_toArray, List.set_cons_zero, List.set_cons_succ]
      rfl
     refine done_ (by kernel_rfl) ?_
     obtain ⟨f0, f1, h0, h1⟩ := hHeld
     have hI6 := hI1 _ _ hI5 hb
     have HO6 := Kd.R_below HO5 hb
     clear f0' f1' h0' h1' hI5 HO5 hb hcall
     by_cases hneg : cv < 0
     ·have hst3 : Aside (sinkB cf q ((cur.set (q + 1) ⟨y, yn⟩).set q ⟨x, xn⟩) = insTo cf l (k + 1)) := hstep.out hneg
      have hlen3 : ((cur.set (q + 1) (⟨y, yn⟩ : X.S55)).set q ⟨x, xn⟩).length = n := by simpa using hlen2
      have hsz3 : ∀ z ∈ (cur.set (q + 1) (⟨y, yn⟩ : X.S55)).set q ⟨x, xn⟩, z.f0.size ≤ 9223372036854775807 := fun z hz => hsz2 z (hsw.out.mem_iff.1 hz)
      replace hlen3 := Lib.hid hlen3
      replace hsz3 := Lib.hid hsz3
      clear hstop hstep hsw hsz2
      go_wp2_with fail
      refine start_ (n := 18) (S := fun w' => w'.cell? (ad.add ((q + 1) * 2)) = some (.string x) ∧ w'.cell? ⟨(ad.add ((q + 1) * 2)).block, (ad.add ((q + 1) * 2)).off + 1, none⟩ = some (.int .i64 xn) ∧ w'.cell? (ad.add (q * 2)) = some (.string y) ∧ w'.cell? ⟨(ad.add (q * 2)).block, (ad.add (q * 2)).off + 1, none⟩ = some (.int .i64 yn)) (ds := [15, 17]) (bA 18 0) (by kernel_rfl) rfl rfl ?_ (fun hHeld => ?_)
      ·exact ⟨f0, f1, h0, h1⟩
      have hDr : Below W2.heap.size W2 W2.drew := below_drew (Below.refl _ _)
      have hI7 := hI1 _ _ hI6 hDr
      have HO7 := Kd.R_below HO6 hDr
      clear f0 f1 h0 h1 hI6 HO6 hDr
      generalize W2.drew = W3 at hHeld hI7 HO7 ⊢
      refine pure_ (i := 0) (N := some 37) (v := ?_) (a' := ?_) (bA 18 1) rfl rfl (by kernel_rfl) (fun _ _ _ h => h) (Or.inl ⟨by rfl, ?_⟩) ?_ ?_
      rotate_left
      ·intro w'
       go_simp
       with_reducible rfl
      rotate_left
      ·simp only [Act.put, List.setIfInBounds_toArray, List.set_cons_zero, List.set_cons_succ]
       rfl
      refine pure_ (i := 1) (N := some 38) (v := ?_) (a' := ?_) (bA 18 3) rfl rfl (by kernel_rfl) (fun _ _ _ h => h) (Or.inl ⟨by rfl, ?_⟩) ?_ ?_
      rotate_left
      ·intro w'
       go_simp
       with_reducible rfl
      rotate_left
      ·simp only [Act.put, List.setIfInBounds_toArray, List.set_cons_zero, List.set_cons_succ]
       rfl
      refine pure_ (i := 2) (N := some 39) (v := ?_) (a' := ?_) (bA 18 7) rfl rfl (by kernel_rfl) (fun _ _ _ h => h) (Or.inl ⟨by rfl, ?_⟩) ?_ ?_
      rotate_left
      ·intro w'
       go_simp
       with_reducible rfl
      rotate_left
      ·simp only [Act.put, List.setIfInBounds_toArray, List.set_cons_zero, List.set_cons_succ]
       rfl
      refine pure_ (i := 3) (N := some 40) (v := ?_) (a' := ?_) (bA 18 15) rfl rfl (by kernel_rfl) (fun _ _ _ h => h) (Or.inl ⟨by rfl, ?_⟩) ?_ ?_
      rotate_left
      ·intro w'
       go_simp
       with_reducible rfl
      rotate_left
      ·simp only [Act.put, List.setIfInBounds_toArray, List.set_cons_zero, List.set_cons_succ]
       rfl
      refine pure_ (i := 4) (N := some 41) (v := ?_) (a' := ?_) (bA 18 31) rfl rfl (by kernel_rfl) (fun _ _ _ h => h) (Or.inl ⟨by rfl, ?_⟩) ?_ ?_
      rotate_left
      ·intro w'
       go_simp
       with_reducible rfl
      rotate_left
      ·simp only [Act.put, List.setIfInBounds_toArray, List.set_cons_zero, List.set_cons_succ]
       rfl
      refine pure_ (i := 5) (N := some 42) (v := ?_) (a' := ?_) (bA 18 63) rfl rfl (by kernel_rfl) (fun _ _ _ h => h) (Or.inl ⟨by rfl, ?_⟩) ?_ ?_
      rotate_left
      ·intro w'
       go_simp
       with_reducible rfl
      rotate_left
      ·simp only [Act.put, List.setIfInBounds_toArray, List.set_cons_zero, List.set_cons_succ]
       rfl
      refine pure_ (i := 6) (N := some 43) (v := ?_) (a' := ?_) (bA 18 127) rfl rfl (by kernel_rfl) (fun _ _ _ h => h) (Or.inl ⟨by rfl, ?_⟩) ?_ ?_
      rotate_left
      ·intro w'
       go_simp
       with_reducible rfl
      rotate_left
      ·simp only [Act.put, List.setIfInBounds_toArray, List.set_cons_zero, List.set_cons_succ]
       rfl
      refine pure_ (i := 7) (N := some 44) (v := ?_) (a' := ?_) (bA 18 255) rfl rfl (by kernel_rfl) (fun _ _ _ h => h) (Or.inl ⟨by rfl, ?_⟩) ?_ ?_
      rotate_left
      ·intro w'
       go_simp
       with_reducible rfl
      rotate_left
      ·simp only [Act.put, List.setIfInBounds_toArray, List.set_cons_zero, List.set_cons_succ]
       rfl
      refine pure_ (i := 8) (N := some 45) (v := ?_) (a' := ?_) (bA 18 511) rfl rfl (by kernel_rfl) (fun _ _ _ h => h) (Or.inl ⟨by rfl, ?_⟩) ?_ ?_
      rotate_left
      ·intro w'
       go_simp
       with_reducible rfl
      rotate_left
      ·simp only [Act.put, List.setIfInBounds_toArray, List.set_cons_zero, List.set_cons_succ]
       rfl
      refine take_ (i := 9) (N := some 46) (v := ?_) (a' := ?_) (bA 18 1023) rfl rfl (by kernel_rfl) (fun _ _ _ h => h) (Or.inl ⟨by rfl, ?_⟩) hHeld ?_ ?_
      rotate_left
      ·rintro w' ⟨s0, s1, s2, s3⟩
       go_simp
       with_reducible rfl
      rotate_left
      ·simp only [Act.put, List.setIfInBounds_toArray, List.set_cons_zero, List.set_cons_succ]
       rfl
      refine pure_ (i := 10) (N := some 47) (v := ?_) (a' := ?_) (bA 18 2047) rfl rfl (by kernel_rfl) (fun _ _ _ h => h) (Or.inl ⟨by rfl, ?_⟩) ?_ ?_
      rotate_left
      ·intro w'
       go_simp
       with_reducible rfl
      rotate_left
      ·simp only [Act.put, List.setIfInBounds_toArray, List.set_cons_zero, List.set_cons_succ]
       rfl
      refine pure_ (i := 11) (N := some 48) (v := ?_) (a' := ?_) (bA 18 4095) rfl rfl (by kernel_rfl) (fun _ _ _ h => h) (Or.inl ⟨by rfl, ?_⟩) ?_ ?_
      rotate_left
      ·intro w'
       go_simp
       with_reducible rfl
      rotate_left
      ·simp only [Act.put, List.setIfInBounds_toArray, List.set_cons_zero, List.set_cons_succ]
       rfl
      refine pure_ (i := 12) (N := some 49) (v := ?_) (a' := ?_) (bA 18 8191) rfl rfl (by kernel_rfl) (fun _ _ _ h => h) (Or.inl ⟨by rfl, ?_⟩) ?_ ?_
      rotate_left
      ·intro w'
       go_simp
       with_reducible rfl
      rotate_left
      ·simp only [Act.put, List.setIfInBounds_toArray, List.set_cons_zero, List.set_cons_succ]
       rfl
      refine take_ (i := 13) (N := some 50) (v := ?_) (a' := ?_) (bA 18 16383) rfl rfl (by kernel_rfl) (fun _ _ _ h => h) (Or.inl ⟨by rfl, ?_⟩) hHeld ?_ ?_
      rotate_left
      ·rintro w' ⟨s0, s1, s2, s3⟩
       go_simp
       with_reducible rfl
      rotate_left
      ·simp only [Act.put, List.setIfInBounds_toArray, List.set_cons_zero, List.set_cons_succ]
       rfl
      refine pure_ (i := 14) (N := some 51) (v := ?_) (a' := ?_) (bA 18 32767) rfl rfl (by kernel_rfl) (fun _ _ _ h => h) (Or.inl ⟨by rfl, ?_⟩) ?_ ?_
      rotate_left
      ·intro w'
       go_simp
       with_reducible rfl
      rotate_left
      ·simp only [Act.put, List.setIfInBounds_toArray, List.set_cons_zero, List.set_cons_succ]
       rfl
      obtain rfl := hA3
      simp only [add0]
      refine last_ (i := 15) (N := none) (bA 18 65535) rfl rfl (by kernel_rfl) (by decide) (fun K hK => ?_)
      have hst := fun (o : Oper) (a : Act) h1 h2 h3 => (elem_both (o := o) (a := a) (p := .tmp 51) (y := .tmp 46) h1 (q + 1) y yn h2 h3 HO7 hqn).1
      refine skip_ rfl rfl (hst _ _ rfl rfl rfl) ?_
      refine hK.out _ _ ?_
      clear hK K hst
      obtain ⟨HO8, hg4⟩ := elem_set (q + 1) y yn HO7 hqn
      generalize W3.setCells g ((q + 1) * 2) [.string y, .int .i64 yn] = W4 at HO8 hg4 ⊢
      have hI8 := hI2 _ _ hI7 hg4
      refine pure_ (i := 16) (N := some 52) (v := ?_) (a' := ?_) (bA 18 131071) rfl rfl (by kernel_rfl) (fun _ _ _ h => h) (Or.inl ⟨by rfl, ?_⟩) ?_ ?_
      rotate_left
      ·intro w'
       go_simp
       with_reducible rfl
      rotate_left
      ·simp only [Act.put, List.setIfInBounds_toArray, List.set_cons_zero, List.set_cons_succ]
       rfl
      refine last_ (i := 17) (N := none) (bA 18 262143) rfl rfl (by kernel_rfl) (by decide) (fun K hK => ?_)
      have hst := fun (o : Oper) (a : Act) h1 h2 h3 => (elem_both (o := o) (a := a) (p := .tmp 52) (y := .tmp 50) h1 q x xn h2 h3 HO8 (by omega)).1
      refine skip_ rfl rfl (hst _ _ rfl rfl rfl) ?_
      refine hK.out _ _ ?_
      clear hK K hst
      obtain ⟨HO9, hg5⟩ := elem_set q x xn HO8 (by omega)
      generalize W4.setCells g (q * 2) [.string x, .int .i64 xn] = W5 at HO9 hg5 ⊢
      have hI9 := hI2 _ _ hI8 hg5
      refine done_ (by kernel_rfl) ?_
      clear hHeld HO7 HO8 hI7 hI8 hg4 hg5
      go_wp2_with fail
      go_roundw
      case measure => simp [intOf]; omega
      case rel => exact ⟨q, _, by omega, rfl, ⟨hst3.out, hlen3.out, hsz3.out, hI9, HO9⟩⟩
     ·have hst3 : Aside (cur = insTo cf l (k + 1)) := hstop.out (by omega)
      clear hstop hstep hsw hsz2 f0 f1 h0 h1
      go_wp2_with fail
      go_roundw
      case measure => simp [intOf]; omega
      case rel => exact ⟨k + 1, .inr (by omega), by simp, ⟨hI6, by rw [← hst3.out]; exact HO6⟩⟩
    ·obtain rfl : j = 0 := by omega
     have hst3 : Aside (cur = insTo cf l (k + 1)) := hst2
     clear hst2 hsz2
     go_wp2_with fail
     go_quiet (fail)
     go_wp2
     have hDn := pw_below_drewN (Below.refl wr.heap.size wr) nq
     have hI5 := hI1 _ _ hI4 hDn
     have HO5 := Kd.R_below HO4 hDn
     go_roundw
     case measure => simp [intOf]; omega
     case rel => exact ⟨k + 1, .inr (by omega), by simp, ⟨hI5, by rw [← hst3.out]; exact HO5⟩⟩
  ·have hE : Aside (insTo cf l k = sortB cf l) := by
    have h2 := hn.out
    show insTo cf l k = insTo cf l (l.length - 1)
    congr 1
    omega
   have hnlt : ¬ ((k : Int) + 1 < (n : Int)) := by omega
   go_wp2_with fail
   go_end0
   exact ⟨rfl, hI3, by rw [← hE.out]; exact HO3⟩
end Go.Proofs.YtfflbeenkfaemaaGreatDoor.Ext
namespace Go.Proofs.YtfflbeenkfaemaaGreatDoor.Ext
open Go.RowKit Go.Maps Go.WideMaps Go.ChangeMaps
abbrev bl (s : ByteArray) : List UInt8 := s.data.toList
theorem bl_inj {a b : ByteArray} (h : bl a = bl b) : a = b := ByteArray.ext (Array.toList_inj.1 h)
/-- A map whose keys are texts, none twice. -/
def KeyStr (D : DataW Unit) : Prop := ∃ es, D = .map es ∧ es.Pairwise (fun p q => p.1 ≠ q.1) ∧ ∀ p ∈ es, ∃ x, p.1 = .string x
theorem KeyStr.nil : KeyStr (.map []) := ⟨[], rfl, List.Pairwise.nil, fun _ h => by cases h⟩
theorem KeyStr.isMap {D : DataW Unit} (h : KeyStr D) : Maps.IsMap D := by
 obtain ⟨es, rfl, _⟩ := h
 exact ⟨es, rfl⟩
theorem KeyStr.put {D : DataW Unit} (h : KeyStr D) (s : List UInt8) (u : DataW Unit) : KeyStr (D.put (.string s) u) := by
 obtain ⟨es, rfl, hp, hk⟩ := h
 obtain ⟨es', he, hp'⟩ := Tidy.put ⟨es, rfl, hp⟩ (k := .string s) trivial u
 refine ⟨es', he, hp', fun p hp2 => ?_⟩
 have e2 : (DataW.map es).put (Lit.string s) u = .map (DataW.insert (Lit.string s, u) (es.filter fun p => !p.1.sameKey (Lit.string s))) := rfl
 rw [e2] at he
 injection he with he
 subst he
 rcases Go.ChangeMaps.mem_insert_iff.1 hp2 with rfl | h2
 ·exact ⟨_, rfl⟩
 ·exact hk _ (List.mem_filter.1 h2).1
theorem KeyStr.has {D : DataW Unit} (h : KeyStr D) (x : List UInt8) : x ∈ Go.strKeys D ↔ Go.Maps.has D (.string x) = true := by
 obtain ⟨es, rfl, _, hk⟩ := h
 rw [has_eq, List.any_eq_true]
 show x ∈ es.map (fun p => Go.strOf p.1) ↔ _
 rw [List.mem_map]
 constructor
 ·rintro ⟨p, hp', rfl⟩
  obtain ⟨a, ha⟩ := hk p hp'
  exact ⟨p, hp', by rw [ha]; simp [Lit.sameKey, Go.strOf]⟩
 ·rintro ⟨p, hp', hs⟩
  obtain ⟨a, ha⟩ := hk p hp'
  rw [ha] at hs
  exact ⟨p, hp', by rw [ha]; simpa [Lit.sameKey, Go.strOf] using hs⟩
theorem KeyStr.nodup {D : DataW Unit} (h : KeyStr D) : (Go.strKeys D).Nodup := by
 obtain ⟨es, rfl, hp, hk⟩ := h
 show (es.map fun p => Go.strOf p.1).Nodup
 refine List.pairwise_map.2 (hp.imp_of_mem fun {p q} hp' hq' hne e => hne ?_)
 obtain ⟨a, ha⟩ := hk p hp'
 obtain ⟨b, hb⟩ := hk q hq'
 rw [ha, hb] at e ⊢
 exact congrArg _ e
theorem has_putS {D : DataW Unit} (h : KeyStr D) (s x : List UInt8) (u : DataW Unit) : Go.Maps.has (D.put (.string s) u) (.string x) = true ↔ x = s ∨ Go.Maps.has D (.string x) = true := by
 by_cases e : x = s
 ·subst e
  rw [has_put_same (k := .string x) h.isMap trivial u]
  simp
 ·rw [has_put_other (fun q => e (by injection q))]
  simp [e]
/-- One lot more on the sum of a good. -/
def addTo (s : ByteArray) (n : Int) (x : X.S55) : Int := if 0 < x.f1 ∧ x.f0 = s then wrap64 (n + x.f1) else n
/-- How many pieces of a good there are. -/
def sumOf (l : List X.S55) (s : ByteArray) : Int := l.foldl (addTo s) 0
theorem cntStep_key {D : DataW Unit} (h : KeyStr D) (x : X.S55) : KeyStr (cntStep D x) := by
 unfold cntStep
 split
 ·exact h.put _ _
 ·exact h
theorem cnt_key (l : List X.S55) : KeyStr (cntD l) := by
 have : ∀ (l : List X.S55) (D : DataW Unit), KeyStr D → KeyStr (l.foldl cntStep D) := by
  intro l
  induction l with
  | nil => exact fun D h => h
  | cons x l ih => exact fun D h => ih _ (cntStep_key h x)
 exact this l _ KeyStr.nil
theorem cnt_has (l : List X.S55) (s : List UInt8) : Go.Maps.has (cntD l) (.string s) = true ↔ ∃ x ∈ l, 0 < x.f1 ∧ bl x.f0 = s := by
 have : ∀ (l : List X.S55) (D : DataW Unit), KeyStr D → (Go.Maps.has (l.foldl cntStep D) (.string s) = true ↔ (Go.Maps.has D (.string s) = true ∨ ∃ x ∈ l, 0 < x.f1 ∧ bl x.f0 = s)) := by
  intro l
  induction l with
  | nil => intro D h; simp
  | cons x l ih =>
   intro D h
   rw [List.foldl_cons, ih _ (cntStep_key h x)]
   have e : Go.Maps.has (cntStep D x) (.string s) = true ↔ (Go.Maps.has D (.string s) = true ∨ (0 < x.f1 ∧ bl x.f0 = s)) := by
    unfold cntStep keyL
    split
    ·rename_i hx
     rw [has_putS h]
     constructor
     ·rintro (h1 | h1)
      ·exact .inr ⟨hx, h1.symm⟩
      ·exact .inl h1
     ·rintro (h1 | ⟨_, h1⟩)
      ·exact .inr h1
      ·exact .inl h1.symm
    ·rename_i hx
     have : ¬ 0 < x.f1 := hx
     simp [this]
   rw [e]
   simp only [List.mem_cons, exists_eq_or_imp]
   exact or_assoc
 rw [cntD, this l _ KeyStr.nil]
 constructor
 ·rintro (h | h)
  ·cases h
  ·exact h
 ·exact .inr
theorem numAt_put_same {D : DataW Unit} (h : KeyStr D) (s : ByteArray) (n : Int) : numAt (D.put (keyL s) (litI n)) (keyL s) = n := by
 unfold numAt
 rw [Maps.atKey_put_same h.isMap (by exact trivial)]
 rfl
theorem numAt_put_other {D : DataW Unit} (s t : ByteArray) (hne : t ≠ s) (n : Int) : numAt (D.put (keyL s) (litI n)) (keyL t) = numAt D (keyL t) := by
 unfold numAt
 rw [Maps.atKey_put_other (fun e => hne (by unfold keyL at e; have h2 := congrArg (fun x : Lit => match x with | .string s => s | _ => []) e; exact bl_inj h2))]
theorem cnt_num (l : List X.S55) (s : ByteArray) : numAt (cntD l) (keyL s) = sumOf l s := by
 have : ∀ (l : List X.S55) (D : DataW Unit), KeyStr D → numAt (l.foldl cntStep D) (keyL s) = l.foldl (addTo s) (numAt D (keyL s)) := by
  intro l
  induction l with
  | nil => intro D h; rfl
  | cons x l ih =>
   intro D h
   rw [List.foldl_cons, ih _ (cntStep_key h x), List.foldl_cons]
   congr 1
   unfold cntStep addTo
   by_cases hx : x.f1 > 0
   ·rw [if_pos hx]
    by_cases hs : x.f0 = s
    ·rw [if_pos ⟨hx, hs⟩, hs, numAt_put_same h]
    ·rw [if_neg (fun h => hs h.2), numAt_put_other _ _ (fun e => hs e.symm)]
   ·rw [if_neg hx, if_neg (fun h => hx h.1)]
 exact this l _ KeyStr.nil
theorem keysB_mem (l : List X.S55) (s : ByteArray) : s ∈ keysB l ↔ ∃ x ∈ l, 0 < x.f1 ∧ x.f0 = s := by
 unfold keysB
 rw [List.mem_map]
 constructor
 ·rintro ⟨t, ht, rfl⟩
  rw [List.mem_mergeSort, (cnt_key l).has, cnt_has] at ht
  obtain ⟨x, hx, h0, rfl⟩ := ht
  exact ⟨x, hx, h0, rfl⟩
 ·rintro ⟨x, hx, h0, rfl⟩
  exact ⟨bl x.f0, by rw [List.mem_mergeSort, (cnt_key l).has, cnt_has]; exact ⟨x, hx, h0, rfl⟩, rfl⟩
theorem keysB_sorted (l : List X.S55) : (keysB l).Pairwise (fun a b => bl a < bl b) := by
 unfold keysB
 rw [List.pairwise_map]
 have tr : ∀ a b c : List UInt8, (decide (a ≤ b)) = true → (decide (b ≤ c)) = true → (decide (a ≤ c)) = true := fun a b c h1 h2 => by simp only [decide_eq_true_eq] at *; exact List.le_trans h1 h2
 have tot : ∀ a b : List UInt8, (decide (a ≤ b) || decide (b ≤ a)) = true := fun a b => by simp only [Bool.or_eq_true, decide_eq_true_eq]; exact List.le_total a b
 have h1 := List.pairwise_mergeSort tr tot (Go.strKeys (cntD l))
 have h2 : ((Go.strKeys (cntD l)).mergeSort (fun x y => decide (x ≤ y))).Pairwise (· ≠ ·) := ((List.mergeSort_perm _ _).nodup_iff).2 (cnt_key l).nodup
 refine (h1.and h2).imp fun {a c} ⟨h3, h4⟩ => ?_
 simp only [decide_eq_true_eq] at h3
 rcases List.le_iff_lt_or_eq.1 h3 with q | q
 ·exact q
 ·exact absurd q h4
theorem joinB_eq (l : List X.S55) : joinB l = (keysB l).map fun s => ⟨s, sumOf l s⟩ := by
 unfold joinB
 exact List.map_congr_left fun s _ => by rw [cnt_num]
theorem joinB_mem (l : List X.S55) (z : X.S55) : z ∈ joinB l ↔ (∃ x ∈ l, 0 < x.f1 ∧ x.f0 = z.f0) ∧ z.f1 = sumOf l z.f0 := by
 rw [joinB_eq, List.mem_map]
 constructor
 ·rintro ⟨s, hs, rfl⟩
  exact ⟨(keysB_mem l s).1 hs, rfl⟩
 ·rintro ⟨h1, h2⟩
  exact ⟨z.f0, (keysB_mem l _).2 h1, by rw [← h2]⟩
theorem joinB_from (l : List X.S55) : ∀ x ∈ joinB l, ∃ y ∈ l, y.f0 = x.f0 := fun x hx => by
 obtain ⟨⟨y, hy, _, e⟩, _⟩ := (joinB_mem l x).1 hx
 exact ⟨y, hy, e⟩
theorem joinB_keys (l : List X.S55) : (joinB l).map X.S55.f0 = keysB l := by
 rw [joinB_eq, List.map_map]
 exact List.map_id _
theorem joinB_sorted (l : List X.S55) : (joinB l).Pairwise (fun a b => bl a.f0 < bl b.f0) := by
 rw [joinB_eq, List.pairwise_map]
 exact keysB_sorted l
theorem length_of_sub {α : Type} [DecidableEq α] : ∀ (l l' : List α), l.Nodup → (∀ x ∈ l, x ∈ l') → l.length ≤ l'.length
 | [], _, _, _ => Nat.zero_le _
 | a :: r, l', hn, h => by
  obtain ⟨h1, h2⟩ := List.nodup_cons.1 hn
  have ha : a ∈ l' := h a List.mem_cons_self
  have := length_of_sub r (l'.erase a) h2 fun x hx => (List.mem_erase_of_ne (fun e => h1 (by rw [← e]; exact hx))).2 (h x (List.mem_cons_of_mem _ hx))
  rw [List.length_erase_of_mem ha] at this
  have : 0 < l'.length := List.length_pos_of_mem ha
  simp only [List.length_cons]
  omega
theorem lt_nodup {l : List ByteArray} (h : l.Pairwise (fun a b => bl a < bl b)) : l.Nodup := h.imp fun {a b} (q : bl a < bl b) e => by subst e; exact List.lt_irrefl _ q
theorem joinB_len (l : List X.S55) : (joinB l).length ≤ l.length := by
 have h := length_of_sub (keysB l) (l.map X.S55.f0) (lt_nodup (keysB_sorted l)) (fun s hs => by
  obtain ⟨x, hx, _, rfl⟩ := (keysB_mem l s).1 hs
  exact List.mem_map.2 ⟨x, hx, rfl⟩)
 rw [← joinB_keys] at h
 simpa using h
theorem sorted_ext {l l' : List ByteArray} (h : l.Pairwise (fun a b => bl a < bl b)) (h' : l'.Pairwise (fun a b => bl a < bl b)) (hm : ∀ x, x ∈ l ↔ x ∈ l') : l = l' := by
 have hp : l.Perm l' := (List.perm_ext_iff_of_nodup (lt_nodup h) (lt_nodup h')).2 hm
 exact hp.eq_of_pairwise (le := fun a b => bl a < bl b) (fun a b _ _ h1 h2 => absurd (List.lt_trans h1 h2) (List.lt_irrefl (bl a))) h h'
/-- A sorted list of just the goods of l, each with its sum, is what Join makes. -/
theorem joinB_uniq (l L : List X.S55) (hs : L.Pairwise (fun a b => bl a.f0 < bl b.f0)) (hk : ∀ s, (∃ z ∈ L, z.f0 = s) ↔ ∃ x ∈ l, 0 < x.f1 ∧ x.f0 = s) (hn : ∀ z ∈ L, z.f1 = sumOf l z.f0) : L = joinB l := by
 have e : L.map X.S55.f0 = keysB l := sorted_ext (List.pairwise_map.2 hs) (keysB_sorted l) fun s => by
  rw [List.mem_map, keysB_mem]
  exact hk s
 rw [joinB_eq, ← e, List.map_map]
 conv => lhs; rw [← List.map_id L]
 exact List.map_congr_left fun z hz => by
  show z = (⟨z.f0, sumOf l z.f0⟩ : X.S55)
  rw [← hn z hz]
/-! ### the document's Join -/
theorem less_iff (a b : ByteArray) : Op.bytesLess a.toList b.toList = true ↔ bl a < bl b := by
 rw [Go.Proofs.bytesLess_eq, ByteArray.toList_eq, ByteArray.toList_eq, decide_eq_true_eq]
theorem not_less (a b : ByteArray) (h : ¬ Op.bytesLess a.toList b.toList = true) (hne : a ≠ b) : bl b < bl a := by
 rw [less_iff] at h
 rcases List.le_iff_lt_or_eq.1 (List.not_lt.1 h) with q | q
 ·exact q
 ·exact absurd (bl_inj q).symm hne
/-- What the document's Join has made of l. -/
structure Joined (l L : List X.S55) : Prop where
 sorted : L.Pairwise (fun a b => bl a.f0 < bl b.f0)
 keys : ∀ s, (∃ z ∈ L, z.f0 = s) ↔ ∃ x ∈ l, 0 < x.f1 ∧ x.f0 = s
 nums : ∀ z ∈ L, z.f1 = sumOf l z.f0
theorem sumOf_snoc (l : List X.S55) (x : X.S55) (s : ByteArray) : sumOf (l ++ [x]) s = addTo s (sumOf l s) x := by
 unfold sumOf
 rw [List.foldl_append]
 rfl
theorem sumOf_none (l : List X.S55) (s : ByteArray) (h : ¬ ∃ x ∈ l, 0 < x.f1 ∧ x.f0 = s) : sumOf l s = 0 := by
 have : ∀ (l : List X.S55) (n : Int), (¬ ∃ x ∈ l, 0 < x.f1 ∧ x.f0 = s) → l.foldl (addTo s) n = n := by
  intro l
  induction l with
  | nil => intro n _; rfl
  | cons x l ih =>
   intro n h
   have e : addTo s n x = n := if_neg (fun h2 => h ⟨x, List.mem_cons_self, h2⟩)
   rw [List.foldl_cons, e]
   exact ih n (fun ⟨y, hy, h2⟩ => h ⟨y, List.mem_cons_of_mem _ hy, h2⟩)
 exact this l 0 h
theorem take_less (out : List X.S55) (s : ByteArray) : ∀ z ∈ out.take (posB out s), bl z.f0 < bl s := fun z hz => by
 obtain ⟨i, hi, rfl⟩ := List.getElem_of_mem hz
 rw [List.length_take] at hi
 rw [List.getElem_take]
 exact (less_iff _ _).1 (posB_lt s out i (by omega) (by omega))
theorem sorted_at {L : List X.S55} (h : L.Pairwise (fun a b => bl a.f0 < bl b.f0)) (i j : Nat) (hi : i < L.length) (hj : j < L.length) (hij : i < j) : bl L[i].f0 < bl L[j].f0 := List.pairwise_iff_getElem.1 h i j hi hj hij
theorem drop_more (out : List X.S55) (hs : out.Pairwise (fun a b => bl a.f0 < bl b.f0)) (s : ByteArray) (hno : ∀ h : posB out s < out.length, out[posB out s].f0 ≠ s) : ∀ z ∈ out.drop (posB out s), bl s < bl z.f0 := fun z hz => by
 obtain ⟨i, hi, rfl⟩ := List.getElem_of_mem hz
 rw [List.length_drop] at hi
 rw [List.getElem_drop]
 have hk : posB out s < out.length := by omega
 have h1 := not_less _ _ (posB_at s out hk) (hno hk)
 rcases Nat.eq_zero_or_pos i with rfl | h0
 ·exact h1
 ·exact List.lt_trans h1 (sorted_at hs _ _ hk (by omega) (by omega))
theorem joined_step {l L : List X.S55} (h : Joined l L) (x : X.S55) (hw : x.f1 ≤ 9223372036854775807) : Joined (l ++ [x]) (rjStep L x) := by
 unfold rjStep
 by_cases hx : x.f1 < 1
 ·rw [if_pos hx]
  refine ⟨h.sorted, fun s => (h.keys s).trans ?_, fun z hz => ?_⟩
  ·constructor
   ·rintro ⟨y, hy, h2⟩
    exact ⟨y, List.mem_append_left _ hy, h2⟩
   ·rintro ⟨y, hy, h2, h3⟩
    rcases List.mem_append.1 hy with hy | hy
    ·exact ⟨y, hy, h2, h3⟩
    ·rw [List.mem_singleton.1 hy] at h2
     omega
  ·rw [sumOf_snoc, h.nums z hz]
   exact (if_neg (fun h2 => by omega)).symm
 ·rw [if_neg hx]
  have hx0 : 0 < x.f1 := by omega
  unfold insB
  by_cases hc : posB L x.f0 < L.length ∧ (X.rd_T55 L (posB L x.f0 : Nat)).f0 = x.f0
  ·rw [if_pos hc]
   obtain ⟨hk, he⟩ := hc
   generalize hkk : posB L x.f0 = k at hk he
   rw [rd_eq L k hk] at he ⊢
   have hkey : ∀ z, z ∈ L.set k ⟨x.f0, wrap64 (L[k].f1 + x.f1)⟩ → z = ⟨x.f0, wrap64 (L[k].f1 + x.f1)⟩ ∨ (z ∈ L ∧ z.f0 ≠ x.f0) := fun z hz => by
    obtain ⟨i, hi, rfl⟩ := List.getElem_of_mem hz
    rw [List.length_set] at hi
    rw [List.getElem_set]
    split
    ·exact .inl rfl
    ·rename_i hne
     refine .inr ⟨List.getElem_mem _, fun e => ?_⟩
     rcases Nat.lt_or_ge i k with hlt | hge
     ·have := sorted_at h.sorted i k hi hk hlt
      rw [e, he] at this
      exact List.lt_irrefl _ this
     ·have := sorted_at h.sorted k i hk hi (by omega)
      rw [e, he] at this
      exact List.lt_irrefl _ this
   have hmap : (L.set k ⟨x.f0, wrap64 (L[k].f1 + x.f1)⟩).map X.S55.f0 = L.map X.S55.f0 := by
    rw [List.map_set]
    show (L.map X.S55.f0).set k x.f0 = _
    rw [← he]
    have : L[k].f0 = (L.map X.S55.f0)[k]'(by simpa using hk) := by simp
    rw [this, List.set_getElem_self]
   have hmem : ∀ s, (∃ z ∈ L.set k ⟨x.f0, wrap64 (L[k].f1 + x.f1)⟩, z.f0 = s) ↔ ∃ z ∈ L, z.f0 = s := fun s => by
    have e1 : (∃ z ∈ L.set k ⟨x.f0, wrap64 (L[k].f1 + x.f1)⟩, z.f0 = s) ↔ s ∈ (L.set k ⟨x.f0, wrap64 (L[k].f1 + x.f1)⟩).map X.S55.f0 := by rw [List.mem_map]
    rw [e1, hmap, List.mem_map]
   refine ⟨?_, fun s => ?_, fun z hz => ?_⟩
   ·have := List.pairwise_map.1 (by rw [hmap]; exact List.pairwise_map.2 h.sorted : ((L.set k ⟨x.f0, wrap64 (L[k].f1 + x.f1)⟩).map X.S55.f0).Pairwise (fun a b => bl a < bl b))
    exact this
   ·rw [hmem, h.keys]
    constructor
    ·rintro ⟨y, hy, h2⟩
     exact ⟨y, List.mem_append_left _ hy, h2⟩
    ·rintro ⟨y, hy, h2, h3⟩
     rcases List.mem_append.1 hy with hy | hy
     ·exact ⟨y, hy, h2, h3⟩
     ·rw [List.mem_singleton.1 hy] at h3
      exact (h.keys s).1 ⟨L[k], List.getElem_mem _, he.trans h3⟩
   ·rw [sumOf_snoc]
    rcases hkey z hz with rfl | ⟨h2, h3⟩
    ·show wrap64 (L[k].f1 + x.f1) = addTo x.f0 (sumOf l x.f0) x
     rw [h.nums _ (List.getElem_mem hk), he]
     exact (if_pos ⟨hx0, rfl⟩).symm
    ·rw [h.nums z h2]
     exact (if_neg (fun h4 => h3 h4.2.symm)).symm
  ·rw [if_neg hc]
   have hno : ∀ h2 : posB L x.f0 < L.length, L[posB L x.f0].f0 ≠ x.f0 := fun h2 e => hc ⟨h2, by rw [rd_eq L _ h2]; exact e⟩
   have h1 := take_less L x.f0
   have h2 := drop_more L h.sorted x.f0 hno
   have hnew : ¬ ∃ y ∈ l, 0 < y.f1 ∧ y.f0 = x.f0 := fun h3 => by
    obtain ⟨z, hz, e⟩ := (h.keys _).2 h3
    rw [← List.take_append_drop (posB L x.f0) L] at hz
    rcases List.mem_append.1 hz with hz | hz
    ·have := h1 z hz
     rw [e] at this
     exact List.lt_irrefl _ this
    ·have := h2 z hz
     rw [e] at this
     exact List.lt_irrefl _ this
   have hmem : ∀ z, z ∈ L.take (posB L x.f0) ++ [x] ++ L.drop (posB L x.f0) ↔ z = x ∨ z ∈ L := fun z => by
    conv => rhs; rw [← List.take_append_drop (posB L x.f0) L]
    simp only [List.mem_append, List.mem_singleton]
    constructor
    ·rintro ((h3 | h3) | h3)
     ·exact .inr (.inl h3)
     ·exact .inl h3
     ·exact .inr (.inr h3)
    ·rintro (h3 | h3 | h3)
     ·exact .inl (.inr h3)
     ·exact .inl (.inl h3)
     ·exact .inr h3
   refine ⟨?_, fun s => ?_, fun z hz => ?_⟩
   ·have h3 := h.sorted
    rw [← List.take_append_drop (posB L x.f0) L, List.pairwise_append] at h3
    rw [List.append_assoc, List.pairwise_append]
    refine ⟨h3.1, ?_, fun a ha b hb => ?_⟩
    ·rw [List.singleton_append, List.pairwise_cons]
     exact ⟨h2, h3.2.1⟩
    ·rcases List.mem_cons.1 (by simpa using hb : b ∈ x :: L.drop (posB L x.f0)) with rfl | hb
     ·exact h1 a ha
     ·exact h3.2.2 a ha b hb
   ·constructor
    ·rintro ⟨z, hz, rfl⟩
     rcases (hmem z).1 hz with rfl | hz
     ·exact ⟨z, by simp, hx0, rfl⟩
     ·obtain ⟨y, hy, h4⟩ := (h.keys _).1 ⟨z, hz, rfl⟩
      exact ⟨y, List.mem_append_left _ hy, h4⟩
    ·rintro ⟨y, hy, h3, h4⟩
     rcases List.mem_append.1 hy with hy | hy
     ·obtain ⟨z, hz, e⟩ := (h.keys s).2 ⟨y, hy, h3, h4⟩
      exact ⟨z, (hmem z).2 (.inr hz), e⟩
     ·rw [List.mem_singleton.1 hy] at h4
      exact ⟨x, (hmem x).2 (.inl rfl), h4⟩
   ·rw [sumOf_snoc]
    rcases (hmem z).1 hz with rfl | hz
    ·rw [sumOf_none l _ hnew]
     have : addTo z.f0 0 z = wrap64 (0 + z.f1) := if_pos ⟨hx0, rfl⟩
     rw [this]
     unfold wrap64
     omega
    ·rw [h.nums z hz]
     refine (if_neg (fun h4 => hnew ?_)).symm
     obtain ⟨y, hy, h5⟩ := (h.keys z.f0).1 ⟨z, hz, rfl⟩
     exact ⟨y, hy, h5.1, h5.2.trans h4.2.symm⟩
theorem joined_all : ∀ (m l L : List X.S55) (_ : Joined l L) (_ : ∀ x ∈ m, x.f1 ≤ 9223372036854775807), Joined (l ++ m) (m.foldl rjStep L)
 | [], l, L, h, _ => by simpa using h
 | x :: m, l, L, h, hw => by
  have h1 := joined_all m (l ++ [x]) _ (joined_step h x (hw x List.mem_cons_self)) (fun y hy => hw y (List.mem_cons_of_mem _ hy))
  simpa using h1
theorem rjoinB_eq (l : List X.S55) (hw : ∀ x ∈ l, x.f1 ≤ 9223372036854775807) : rjoinB l = joinB l := by
 have h := joined_all l [] [] ⟨List.Pairwise.nil, fun s => by simp, fun z hz => by cases hz⟩ hw
 rw [List.nil_append] at h
 exact joinB_uniq l _ h.sorted h.keys h.nums
/-- Join sees no order, where the sums don't. -/
theorem joinB_congr {l m : List X.S55} (h1 : ∀ s, (∃ x ∈ l, 0 < x.f1 ∧ x.f0 = s) ↔ ∃ x ∈ m, 0 < x.f1 ∧ x.f0 = s) (h2 : ∀ s, sumOf l s = sumOf m s) : joinB l = joinB m :=
 joinB_uniq m _ (joinB_sorted l) (fun s => by
  rw [← h1 s]
  constructor
  ·rintro ⟨z, hz, rfl⟩
   exact ((joinB_mem l z).1 hz).1
  ·rintro ⟨x, hx, h0, rfl⟩
   exact ⟨⟨x.f0, sumOf l x.f0⟩, (joinB_mem l _).2 ⟨⟨x, hx, h0, rfl⟩, rfl⟩, rfl⟩) (fun z hz => by rw [← h2]; exact ((joinB_mem l z).1 hz).2)
end Go.Proofs.YtfflbeenkfaemaaGreatDoor.Ext
namespace Go.Proofs.YtfflbeenkfaemaaGreatDoor.Ext
open Go.RowKit Go.Proofs.YtfflbeenkfaemaaGreatDoorW.PrintWords Go.Proofs.YtfflbeenkfaemaaGreatDoorW.PrintLast
theorem insertion_nil (c : Nat) (f : Value) (w : World) :
  Calls Tryz.prog 172 #[.slice none 0 c, .int .i64 0, .int .i64 ((0 : Nat) : Int), f] w fun e w' => e = .returned (.tuple #[]) ∧ w = w' := by
 go_enter Tryz.func172, Tryz.ntmps172
 go_wp2_with fail
 go_loop [8] (fun v8 => v8 = .int .i64 1) (fun _ => 0)
 case atStart => rfl
 case round =>
  subst hrel
  go_wp2_with fail
  go_end0
  exact ⟨rfl, rfl⟩
set_option maxHeartbeats 2000000 in
set_option maxRecDepth 100000 in
theorem stable_nil (c : Nat) (f : Value) (w : World) :
  Calls Tryz.prog 147 #[.slice none 0 c, .int .i64 ((0 : Nat) : Int), f] w fun e w' => e = .returned (.tuple #[]) ∧ w = w' := by
 have hc := fun w => insertion_nil c f w
 go_enter Tryz.func147, Tryz.ntmps147
 go_wp2_with fail
 go_loop [7, 8] (fun v7 v8 => v7 = .int .i64 0 ∧ v8 = .int .i64 20) (fun _ _ => 0)
 case atStart => exact ⟨rfl, rfl⟩
 case round =>
  obtain ⟨rfl, rfl⟩ := hrel
  go_wp2_with fail
  refine (hc _).mono ?_
  rintro e w' ⟨rfl, rfl⟩
  go_wp2_with fail
  go_loop [6] (fun v6 => v6 = .int .i64 20) (fun _ => 0)
  case atStart => rfl
  case round =>
   subst hrel
   go_wp2_with fail
   go_end0
   exact ⟨rfl, rfl⟩
set_option maxHeartbeats 2000000 in
set_option maxRecDepth 100000 in
theorem stable_any (cg : Nat) (lb : Array Value) (eg : ∀ args w, (callFunc cg args).run Tryz.prog w = .ok (.enter cg args) w) (cf : X.S55 → X.S55 → Int) (base g n c : Nat) (l : List X.S55) (Inv : World → Prop)
  (hI1 : ∀ W W', Inv W → Below W.heap.size W W' → Inv W') (hI2 : ∀ W W', Inv W → W.grownBy W' (some g) → Inv W')
  (hp : ∀ x y : X.S55, x.f0.size ≤ 9223372036854775807 → y.f0.size ≤ 9223372036854775807 → ∀ W, Inv W → Calls Tryz.prog cg (#[lotV x, lotV y] ++ lb) W fun e w' => e = .returned (.int .i64 (cf x y)) ∧ Below W.heap.size W w')
  (hn : n = l.length) (hl : n < 20) (hs : ∀ x ∈ l, x.f0.size ≤ 9223372036854775807) (w : World) (hI : Inv w) (HO : Kd.R X.k55 55 w base (fun _ => True) (.slice (some ⟨g, 0, none⟩) n c) l) :
  Calls Tryz.prog 147 #[.slice (some ⟨g, 0, none⟩) n c, .int .i64 (n : Int), .func (.func cg) #[] lb] w fun e w' => e = .returned (.tuple #[]) ∧ Inv w' ∧ Kd.R X.k55 55 w' base (fun _ => True) (.slice (some ⟨g, 0, none⟩) n c) (sortB cf l) := by
 have hc := insertion_any cg lb eg cf base g n c l Inv hI1 hI2 hp hn (by omega) hs w hI HO
 clear hI1 hI2 hp hn hs hI HO
 have hl' : (n : Int) < 20 := by omega
 go_enter Tryz.func147, Tryz.ntmps147
 go_wp2_with fail
 go_loop [7, 8] (fun v7 v8 => v7 = .int .i64 0 ∧ v8 = .int .i64 20) (fun _ _ => 0)
 case atStart => exact ⟨rfl, rfl⟩
 case round =>
  obtain ⟨rfl, rfl⟩ := hrel
  go_wp2_with fail
  refine hc.mono ?_
  rintro e w' ⟨rfl, hI, HO⟩
  replace HO := Lib.hid HO
  replace hI := Lib.hid hI
  go_wp2_with fail
  go_loop [6] (fun v6 => v6 = .int .i64 20) (fun _ => 0)
  case atStart => rfl
  case round =>
   subst hrel
   go_wp2_with fail
   go_end0
   exact ⟨rfl, hI.out, HO.out⟩
theorem sortStable_nil (c : Nat) (f : Value) (w : World) :
  Calls Tryz.prog 115 #[.slice none 0 c, f] w fun e w' => e = .returned (.tuple #[]) ∧ w = w' := by
 have hc := fun w => stable_nil c f w
 simp only [Int.ofNat_zero] at hc
 go_enter Tryz.func115, Tryz.ntmps115
 go_wp2_with fail
 refine (hc _).mono ?_
 rintro e w' ⟨rfl, rfl⟩
 go_wp2_with fail
 go_end0
 exact ⟨rfl, rfl⟩
theorem sortStable_any (cg : Nat) (lb : Array Value) (eg : ∀ args w, (callFunc cg args).run Tryz.prog w = .ok (.enter cg args) w) (cf : X.S55 → X.S55 → Int) (base g n c : Nat) (l : List X.S55) (Inv : World → Prop)
  (hI1 : ∀ W W', Inv W → Below W.heap.size W W' → Inv W') (hI2 : ∀ W W', Inv W → W.grownBy W' (some g) → Inv W')
  (hp : ∀ x y : X.S55, x.f0.size ≤ 9223372036854775807 → y.f0.size ≤ 9223372036854775807 → ∀ W, Inv W → Calls Tryz.prog cg (#[lotV x, lotV y] ++ lb) W fun e w' => e = .returned (.int .i64 (cf x y)) ∧ Below W.heap.size W w')
  (hn : n = l.length) (hl : n < 20) (hs : ∀ x ∈ l, x.f0.size ≤ 9223372036854775807) (w : World) (hI : Inv w) (HO : Kd.R X.k55 55 w base (fun _ => True) (.slice (some ⟨g, 0, none⟩) n c) l) :
  Calls Tryz.prog 115 #[.slice (some ⟨g, 0, none⟩) n c, .func (.func cg) #[] lb] w fun e w' => e = .returned (.tuple #[]) ∧ Inv w' ∧ Kd.R X.k55 55 w' base (fun _ => True) (.slice (some ⟨g, 0, none⟩) n c) (sortB cf l) := by
 have hc := stable_any cg lb eg cf base g n c l Inv hI1 hI2 hp hn hl hs w hI HO
 clear hI1 hI2 hp hn hs hI HO
 go_enter Tryz.func115, Tryz.ntmps115
 go_wp2_with fail
 refine hc.mono ?_
 rintro e w' ⟨rfl, hI, HO⟩
 replace HO := Lib.hid HO
 replace hI := Lib.hid hI
 go_wp2_with fail
 go_end0
 exact ⟨rfl, hI.out, HO.out⟩
def orderB (gs : List X.S30) (l : List X.S55) : List X.S55 := sortB (ordB gs) (joinB l)
set_option maxHeartbeats 2000000 in
theorem order_any (t : Nat) (gs : List X.S30) (A : Option Addr) (c : Nat) (l : List X.S55) (w : World) (ht : TC w t gs) (hr : LC w A l) (hl : l.length < 20) :
  Calls Tryz.prog 83 #[.pointer (some ⟨t, 0, none⟩), .slice A l.length c] w fun e w' => ∃ v, e = .returned v ∧ Kd.R X.k55 55 w' w.heap.size (fun _ => True) v (orderB gs l) ∧ Below w.heap.size w w' := by
 have eg := enters_of Tryz.func116 (by kernel_rfl) rfl
 have hU : Below w.heap.size w (w.alloc (.cells #[.pointer (some ⟨t, 0, none⟩)] 31)) := below_alloc (Below.refl _ _) _
 have hbox := blk_new w (.cells #[.pointer (some ⟨t, 0, none⟩)] 31)
 have cJ := Join_any A c l _ (hr.below hU).row hr.len hr.size
 have hjs : ∀ x ∈ joinB l, x.f0.size ≤ 9223372036854775807 := fun x hx => by
  obtain ⟨y, hy, e⟩ := joinB_from l x hx
  rw [← e]
  exact hr.size y hy
 have hjl := joinB_len l
 go_enter Tryz.func83, Tryz.ntmps83
 go_wp2_with fail
 refine cJ.mono ?_
 rintro e w1 ⟨v, rfl, hR, hb1⟩
 clear cJ
 have hB1 := below_step hU hb1
 have hbox1 := blk_below hbox hb1
 have hOr := Lib.hid (show orderB gs l = sortB (ordB gs) (joinB l) from rfl)
 generalize joinB l = jl at hR hjs hjl hOr
 obtain ⟨A1, c1, rfl⟩ := Kd.R_slice hR
 cases A1 with
 | none =>
  have h0 : jl = [] := by
   cases jl with
   | nil => rfl
   | cons x l =>
    obtain ⟨ad, h, _⟩ := (Kd.R_reads' hR).2.2.2.2 (by simp)
    cases h
  subst h0
  have cS := fun W => sortStable_nil c1 (.func (.func 116) #[] #[.pointer (some ⟨w.heap.size, 0, none⟩)]) W
  simp only [List.length_nil] at hR ⊢
  go_wp2_with fail
  refine (cS _).mono ?_
  rintro e w' ⟨rfl, rfl⟩
  go_wp2_with fail
  go_ret
  exact ⟨_, rfl, by rw [hOr.out]; exact Kd.R_lower hR (by simp), hB1⟩
 | some ad =>
  obtain ⟨cap, ev⟩ := R_at_block hR (b := ad.block) rfl
  injection ev with e1 e2 e3
  injection e1 with e1
  subst e3
  have hgl : w.heap.size + 1 ≤ ad.block := by
   obtain ⟨inner, ho⟩ := Kd.R_own hR
   have := own_base ho ad.block rfl
   simpa using this
  have hgb : ad.block ≠ w.heap.size := by omega
  generalize ad.block = g at e1 hgl hgb
  subst e1
  have cS := sortStable_any _ #[.pointer (some ⟨w.heap.size, 0, none⟩)] eg (ordB gs) _ g jl.length c1 jl (fun W => Below w.heap.size w W ∧ W.heap[w.heap.size]? = some (.cells #[.pointer (some ⟨t, 0, none⟩)] 31 (0, 0)))
   (fun W W' h hb => ⟨below_step h.1 hb, blk_below h.2 hb⟩)
   (fun W W' h hg => ⟨h.1.grown hg h.1.size (fun j hj => by cases hj; omega), blk_grown h.2 hg (fun e => hgb (by injection e with e; exact e.symm))⟩)
   (fun x y hx hy W h => by simpa using ord_any t gs w.heap.size x y W (ht.below h.1).tab h.2 hx hy)
   rfl (by omega) hjs w1 ⟨hB1, hbox1⟩ hR
  clear hR hjs hbox hbox1 ht hr
  go_wp2_with fail
  refine cS.mono ?_
  rintro e w2 ⟨rfl, ⟨hB2, _⟩, hR2⟩
  have hR3 := Kd.R_lower hR2 (base' := w.heap.size) (by simp)
  rw [← hOr.out] at hR3
  replace hR3 := Lib.hid hR3
  clear hR2
  go_wp2_with fail
  go_ret
  exact ⟨_, rfl, hR3.out, hB2⟩
end Go.Proofs.YtfflbeenkfaemaaGreatDoor.Ext
namespace Go.Proofs.YtfflbeenkfaemaaGreatDoor.Ext
open Go.RowKit Go.Proofs.YtfflbeenkfaemaaGreatDoorW.PrintWords Go.Proofs.YtfflbeenkfaemaaGreatDoorW.PrintLast
def boxCells : List X.S44 → List Value → List Value
 | b :: bs, v :: vs => .string b.f0 :: .int .i64 b.f1 :: v :: boxCells bs vs
 | _, _ => []
theorem boxCells_length : ∀ (bs : List X.S44) (vs : List Value) (_ : vs.length = bs.length), (boxCells bs vs).length = bs.length * 3
 | [], _, _ => by simp [boxCells]
 | b :: bs, [], h => by simp at h
 | b :: bs, v :: vs, h => by
  have := boxCells_length bs vs (by simpa using h)
  simp only [boxCells, List.length_cons, this]
  omega
theorem boxCells_get : ∀ (bs : List X.S44) (vs : List Value) (i : Nat) (b : X.S44) (v : Value) (_ : bs[i]? = some b) (_ : vs[i]? = some v), (boxCells bs vs)[i * 3]? = some (.string b.f0) ∧ (boxCells bs vs)[i * 3 + 1]? = some (.int .i64 b.f1) ∧ (boxCells bs vs)[i * 3 + 2]? = some v
 | [], _, i, _, _, h, _ => by simp at h
 | _ :: _, [], i, _, _, _, h => by simp at h
 | c :: bs, u :: vs, 0, b, v, h, h2 => by
  simp only [List.getElem?_cons_zero, Option.some.injEq] at h h2
  subst h
  subst h2
  exact ⟨rfl, rfl, rfl⟩
 | c :: bs, u :: vs, i + 1, b, v, h, h2 => by
  have := boxCells_get bs vs i b v (by simpa using h) (by simpa using h2)
  rw [show (i + 1) * 3 = i * 3 + 1 + 1 + 1 by omega]
  simp only [boxCells, List.getElem?_cons_succ]
  exact this
theorem boxCells_snoc : ∀ (bs : List X.S44) (vs : List Value) (b : X.S44) (v : Value) (_ : vs.length = bs.length), boxCells (bs ++ [b]) (vs ++ [v]) = boxCells bs vs ++ [.string b.f0, .int .i64 b.f1, v]
 | [], [], b, v, _ => rfl
 | [], _ :: _, _, _, h => by simp at h
 | c :: bs, [], b, v, h => by simp at h
 | c :: bs, u :: vs, b, v, h => by
  have := boxCells_snoc bs vs b v (by simpa using h)
  simp only [List.cons_append, boxCells, this]
theorem boxCells_setV : ∀ (bs : List X.S44) (vs : List Value) (i : Nat) (v : Value) (_ : vs.length = bs.length), (boxCells bs vs).set (i * 3 + 2) v = boxCells bs (vs.set i v)
 | [], vs, i, v, h => by
  have : vs = [] := List.eq_nil_of_length_eq_zero (by simpa using h)
  subst this
  rfl
 | c :: bs, [], i, v, h => by simp at h
 | c :: bs, u :: vs, 0, v, h => rfl
 | c :: bs, u :: vs, i + 1, v, h => by
  have := boxCells_setV bs vs i v (by simpa using h)
  rw [show (i + 1) * 3 + 2 = i * 3 + 2 + 1 + 1 + 1 by omega]
  simp only [boxCells, List.set_cons_succ, this]
theorem boxCells_setM : ∀ (bs : List X.S44) (vs : List Value) (i : Nat) (b : X.S44) (m : ByteArray) (_ : vs.length = bs.length) (_ : bs[i]? = some b), (boxCells bs vs).set (i * 3) (.string m) = boxCells (bs.set i ⟨m, b.f1, b.f2⟩) vs
 | [], vs, i, b, m, _, h => by simp at h
 | c :: bs, [], i, b, m, h, _ => by simp at h
 | c :: bs, u :: vs, 0, b, m, _, h => by
  simp only [List.getElem?_cons_zero, Option.some.injEq] at h
  subst h
  rfl
 | c :: bs, u :: vs, i + 1, b, m, h, h2 => by
  have := boxCells_setM bs vs i b m (by simpa using h) (by simpa using h2)
  rw [show (i + 1) * 3 = i * 3 + 1 + 1 + 1 by omega]
  simp only [boxCells, List.set_cons_succ, this]
theorem boxCells_setL : ∀ (bs : List X.S44) (vs : List Value) (i : Nat) (b : X.S44) (l : List X.S55) (_ : bs[i]? = some b), boxCells (bs.set i ⟨b.f0, b.f1, l⟩) vs = boxCells bs vs
 | [], vs, i, b, m, h => by simp at h
 | c :: bs, [], 0, b, m, _ => rfl
 | c :: bs, [], i + 1, b, m, _ => rfl
 | c :: bs, u :: vs, 0, b, m, h => by
  simp only [List.getElem?_cons_zero, Option.some.injEq] at h
  subst h
  rfl
 | c :: bs, u :: vs, i + 1, b, m, h => by
  have := boxCells_setL bs vs i b m (by simpa using h)
  simp only [List.set_cons_succ, boxCells, this]
structure BoxesAt (w : World) (base : Nat) (vb : Value) (bs : List X.S44) (vs : List Value) : Prop where
 len : vs.length = bs.length
 row : w.ownsRow base 44 3 vb bs.length (boxCells bs vs)
 rows : ∀ (i : Nat) (b : X.S44) (v : Value), bs[i]? = some b → vs[i]? = some v → Kd.R X.k55 55 w base (fun _ => True) v b.f2
 apart : ∀ (i j : Nat) (u v : Value), i ≠ j → vs[i]? = some u → vs[j]? = some v → ∀ k : Nat, u.ownBlock = some k → v.ownBlock ≠ some k
theorem R55_move {w w1 : World} {e base : Nat} {ok : Nat → Prop} {v : Value} {xs : List X.S55} (h : Kd.R X.k55 e w base ok v xs) (hm : ∀ k, v.ownBlock = some k → w1.heap[k]? = w.heap[k]?) : Kd.R X.k55 e w1 base ok v xs := by
 obtain ⟨h0, inner, ho, hr⟩ := h
 exact ⟨h0, inner, own_move ho hm, hr.imp_ (fun p c hp => by exact hp)⟩
theorem BoxesAt.nil (w : World) (base : Nat) : BoxesAt w base (.slice none 0 0) [] [] := ⟨rfl, own_nil _ _ _ _, fun i b v h => by simp at h, fun i j u v _ h => by simp at h⟩
theorem BoxesAt.below {w w1 : World} {base : Nat} {vb : Value} {bs : List X.S44} {vs : List Value} (h : BoxesAt w base vb bs vs) (hb : Below w.heap.size w w1) : BoxesAt w1 base vb bs vs :=
 ⟨h.len, pw_own_below h.row hb, fun i b v h1 h2 => Kd.R_below (h.rows i b v h1 h2) hb, h.apart⟩
theorem BoxesAt.lower {w : World} {base base' : Nat} {vb : Value} {bs : List X.S44} {vs : List Value} (h : BoxesAt w base vb bs vs) (hb : base' ≤ base) : BoxesAt w base' vb bs vs :=
 ⟨h.len, own_weaken h.row hb, fun i b v h1 h2 => Kd.R_lower (h.rows i b v h1 h2) hb, h.apart⟩
theorem row55_typed {w : World} {base : Nat} {v : Value} {l : List X.S55} (h : Kd.R X.k55 55 w base (fun _ => True) v l) {k : Nat} (hk : v.ownBlock = some k) : base ≤ k ∧ k < w.heap.size ∧ ∃ cells, w.heap[k]? = some (.cells cells 55 (0, 0)) := by
 obtain ⟨inner, ho⟩ := Kd.R_own h
 exact ⟨own_base ho k hk, own_lt ho k hk, own_typed ho k hk⟩
/-- Whatever block is none of a box's lots nor the boxes' own may be written. -/
theorem BoxesAt.far {w w1 : World} {base : Nat} {vb : Value} {bs : List X.S44} {vs : List Value} (h : BoxesAt w base vb bs vs) (gx : Nat) (hv : vb.ownBlock ≠ some gx) (hvs : ∀ v ∈ vs, v.ownBlock ≠ some gx) (hm : ∀ k, k < w.heap.size → k ≠ gx → w1.heap[k]? = w.heap[k]?) : BoxesAt w1 base vb bs vs := by
 refine ⟨h.len, own_move h.row (fun k hk => ?_), fun i b v h1 h2 => R55_move (h.rows i b v h1 h2) (fun k hk => ?_), h.apart⟩
 ·exact hm k (own_lt h.row k hk) (fun e => hv (e ▸ hk))
 ·exact hm k (row55_typed (h.rows i b v h1 h2) hk).2.1 (fun e => hvs v (List.mem_of_getElem? h2) (e ▸ hk))
/-- The boxes' row, where there is one. -/
theorem BoxesAt.form {w : World} {base : Nat} {vb : Value} {bs : List X.S44} {vs : List Value} (h : BoxesAt w base vb bs vs) (hn : 0 < bs.length) : ∃ g cap arr, vb = .slice (some ⟨g, 0, none⟩) bs.length cap ∧ base ≤ g ∧ w.heap[g]? = some (.cells arr 44 (0, 0)) ∧ bs.length ≤ cap := by
 rcases h.row.2 with ⟨_, h0⟩ | ⟨g, cap, arr, hv, hg, hh, hc, _⟩
 ·omega
 ·exact ⟨g, cap, arr, hv, hg, hh, hc⟩
theorem BoxesAt.slice {w : World} {base : Nat} {vb : Value} {bs : List X.S44} {vs : List Value} (h : BoxesAt w base vb bs vs) : ∃ A c, vb = .slice A bs.length c ∧ bs.length ≤ c := by
 rcases h.row.2 with ⟨hv, h0⟩ | ⟨g, cap, arr, hv, hg, hh, hc, _⟩
 ·exact ⟨none, 0, by rw [hv, h0], by omega⟩
 ·exact ⟨_, cap, hv, hc⟩
theorem BoxesAt.cells {w : World} {base g cap : Nat} {n : Nat} {bs : List X.S44} {vs : List Value} (h : BoxesAt w base (.slice (some ⟨g, 0, none⟩) n cap) bs vs) {i : Nat} {b : X.S44} {v : Value} (hb : bs[i]? = some b) (hv : vs[i]? = some v) :
  w.cell? ⟨g, i * 3, none⟩ = some (.string b.f0) ∧ w.cell? ⟨g, i * 3 + 1, none⟩ = some (.int .i64 b.f1) ∧ w.cell? ⟨g, i * 3 + 2, none⟩ = some v := by
 have hrow := h.row
 have hi : i < bs.length := (List.getElem?_eq_some_iff.1 hb).1
 obtain rfl : n = bs.length := by
  rcases hrow.2 with ⟨hv, _⟩ | ⟨g', cap', arr, hv, _⟩
  ·cases hv
  ·injection hv
 obtain ⟨c0, c1, c2⟩ := boxCells_get bs vs i b v hb hv
 exact ⟨(hrow.cellAt (i * 3) (by omega)).trans c0, (hrow.cellAt (i * 3 + 1) (by omega)).trans c1, (hrow.cellAt (i * 3 + 2) (by omega)).trans c2⟩
theorem box_ne {w : World} {base g : Nat} {arr : Array Value} {v : Value} {l : List X.S55} (hg : w.heap[g]? = some (.cells arr 44 (0, 0))) (h : Kd.R X.k55 55 w base (fun _ => True) v l) : v.ownBlock ≠ some g := fun e => by
 obtain ⟨_, _, cells, hc⟩ := row55_typed h e
 rw [hc] at hg
 injection hg with hg
 injection hg with _ hg
 exact absurd hg (by decide)
/-- What a call of fill leaves, seen from all the boxes. -/
theorem BoxesAt.fill {w W1 : World} {base g n cap i : Nat} {bs : List X.S44} {vs : List Value} {b : X.S44} {v v1 : Value} {l1 : List X.S55} (h : BoxesAt w base (.slice (some ⟨g, 0, none⟩) n cap) bs vs) (hb : bs[i]? = some b) (hv : vs[i]? = some v)
  (h1 : Kd.R X.k55 55 W1 base (fun _ => True) v1 l1) (hgr : w.grownBy W1 v.ownBlock) (hat : v1.ownBlock = v.ownBlock ∨ ∃ k, v1.ownBlock = some k ∧ w.heap.size ≤ k) :
  BoxesAt (W1.setCell ⟨g, i * 3 + 2, none⟩ v1) base (.slice (some ⟨g, 0, none⟩) n cap) (bs.set i ⟨b.f0, b.f1, l1⟩) (vs.set i v1) := by
 have hi : i < bs.length := (List.getElem?_eq_some_iff.1 hb).1
 have hR := h.rows i b v hb hv
 obtain ⟨arr, hg⟩ := own_typed h.row g rfl
 have hgv : v.ownBlock ≠ some g := box_ne hg hR
 have hg1 : W1.heap[g]? = some (.cells arr 44 (0, 0)) := blk_grown hg hgr (fun e => hgv e.symm)
 have hgv1 : v1.ownBlock ≠ some g := box_ne hg1 h1
 have hrow1 : W1.ownsRow base 44 3 (.slice (some ⟨g, 0, none⟩) n cap) bs.length (boxCells bs vs) := own_move h.row (fun k hk => by
  obtain rfl : g = k := by simpa [Value.ownBlock] using hk
  exact hg1.trans hg.symm)
 have hne : ∀ j u, j ≠ i → vs[j]? = some u → ∀ k, u.ownBlock = some k → v.ownBlock ≠ some k ∧ v1.ownBlock ≠ some k ∧ k < w.heap.size := fun j u hj hu k hk => by
  obtain ⟨b', hb'⟩ : ∃ b', bs[j]? = some b' := by
   have : j < vs.length := (List.getElem?_eq_some_iff.1 hu).1
   exact ⟨_, List.getElem?_eq_getElem (by rw [← h.len]; exact this)⟩
  have hlt := (row55_typed (h.rows j b' u hb' hu) hk).2.1
  have hn1 : v.ownBlock ≠ some k := h.apart j i u v hj hu hv k hk
  refine ⟨hn1, fun e => ?_, hlt⟩
  rcases hat with hat | ⟨q, hq, hle⟩
  ·exact hn1 (hat ▸ e)
  ·rw [hq] at e
   injection e with e
   omega
 obtain rfl : n = bs.length := by
  rcases h.row.2 with ⟨hv, _⟩ | ⟨g', cap', arr, hv, _⟩
  ·cases hv
  ·injection hv
 refine ⟨by simpa using h.len, ?_, fun j b' u hb' hu => ?_, fun j k u u' hjk hu hu' q hq => ?_⟩
 ·have := hrow1.stored (i * 3 + 2) v1
  rw [List.length_set, boxCells_setL bs _ i b l1 hb, ← boxCells_setV bs vs i v1 h.len]
  exact this.1
 ·by_cases hj : j = i
  ·subst hj
   rw [List.getElem?_set_self hi] at hb'
   rw [List.getElem?_set_self (by rw [h.len]; exact hi)] at hu
   cases hb'
   cases hu
   exact R55_move h1 (fun k hk => Below.heap_setCell W1 ⟨g, j * 3 + 2, none⟩ v1 k (fun e => hgv1 (by rw [hk, e])))
  ·rw [List.getElem?_set_ne (Ne.symm hj)] at hb' hu
   refine R55_move (h.rows j b' u hb' hu) (fun k hk => ?_)
   obtain ⟨n1, n2, hlt⟩ := hne j u hj hu k hk
   have hkg : k ≠ g := fun e => box_ne hg (h.rows j b' u hb' hu) (by rw [hk, e])
   rw [Below.heap_setCell W1 ⟨g, i * 3 + 2, none⟩ v1 k hkg]
   exact hgr.block k hlt (fun e => n1 e.symm)
 ·by_cases hj : j = i
  ·subst hj
   rw [List.getElem?_set_self (by rw [h.len]; exact hi)] at hu
   rw [List.getElem?_set_ne hjk] at hu'
   cases hu
   intro e
   exact (hne k u' (Ne.symm hjk) hu' q e).2.1 hq
  ·rw [List.getElem?_set_ne (Ne.symm hj)] at hu
   by_cases hk : k = i
   ·subst hk
    rw [List.getElem?_set_self (by rw [h.len]; exact hi)] at hu'
    cases hu'
    exact (hne j u hj hu q hq).2.1
   ·rw [List.getElem?_set_ne (Ne.symm hk)] at hu'
    exact h.apart j k u u' hjk hu hu' q hq
/-- A mark is written. -/
theorem BoxesAt.mark {w : World} {base g n cap i : Nat} {bs : List X.S44} {vs : List Value} {b : X.S44} (h : BoxesAt w base (.slice (some ⟨g, 0, none⟩) n cap) bs vs) (hb : bs[i]? = some b) (m : ByteArray) :
  BoxesAt (w.setCell ⟨g, i * 3, none⟩ (.string m)) base (.slice (some ⟨g, 0, none⟩) n cap) (bs.set i ⟨m, b.f1, b.f2⟩) vs := by
 have hi : i < bs.length := (List.getElem?_eq_some_iff.1 hb).1
 obtain ⟨arr, hg⟩ := own_typed h.row g rfl
 obtain rfl : n = bs.length := by
  rcases h.row.2 with ⟨hv, _⟩ | ⟨g', cap', arr, hv, _⟩
  ·cases hv
  ·injection hv
 refine ⟨by simpa using h.len, ?_, fun j b' u hb' hu => ?_, h.apart⟩
 ·have := h.row.stored (i * 3) (.string m)
  rw [List.length_set, ← boxCells_setM bs vs i b m h.len hb]
  exact this.1
 ·have key : ∀ b'', bs[j]? = some b'' → Kd.R X.k55 55 (w.setCell ⟨g, i * 3, none⟩ (.string m)) base (fun _ => True) u b''.f2 := fun b'' hb'' =>
   R55_move (h.rows j b'' u hb'' hu) (fun k hk => Below.heap_setCell w ⟨g, i * 3, none⟩ _ k (fun e => box_ne hg (h.rows j b'' u hb'' hu) (by rw [hk, e])))
  by_cases hj : j = i
  ·subst hj
   rw [List.getElem?_set_self hi] at hb'
   cases hb'
   exact key b hb
  ·rw [List.getElem?_set_ne (Ne.symm hj)] at hb'
   exact key b' hb'
/-- A new box without lots. -/
theorem BoxesAt.push {w W1 : World} {base : Nat} {vb vb1 : Value} {bs : List X.S44} {vs : List Value} (k : Int) (h : BoxesAt w base vb bs vs) (hrow : W1.ownsRow base 44 3 vb1 (bs.length + 1) (boxCells bs vs ++ [.string ⟨#[]⟩, .int .i64 k, .slice none 0 0])) (hgr : w.grownBy W1 vb.ownBlock) :
  BoxesAt W1 base vb1 (bs ++ [⟨⟨#[]⟩, k, []⟩]) (vs ++ [.slice none 0 0]) := by
 refine ⟨by simpa using h.len, ?_, fun j b' u hb' hu => ?_, fun j k u u' hjk hu hu' q hq => ?_⟩
 ·rw [boxCells_snoc bs vs _ _ h.len, List.length_append, List.length_singleton]
  exact hrow
 ·rcases Nat.lt_or_ge j bs.length with hj | hj
  ·rw [List.getElem?_append_left hj] at hb'
   rw [List.getElem?_append_left (by rw [h.len]; exact hj)] at hu
   have hR := h.rows j b' u hb' hu
   refine R55_move hR (fun q hq => ?_)
   obtain ⟨_, hlt, cells, hc⟩ := row55_typed hR hq
   refine hgr.block q hlt (fun e => ?_)
   obtain ⟨cells', hc'⟩ := own_typed h.row q e.symm
   rw [hc] at hc'
   injection hc' with hc'
   injection hc' with _ hc'
   exact absurd hc' (by decide)
  ·rw [List.getElem?_append_right hj] at hb'
   rw [List.getElem?_append_right (by rw [h.len]; exact hj)] at hu
   have hj0 : j - bs.length = 0 := by
    have := (List.getElem?_eq_some_iff.1 hb').1
    simp at this
    omega
   rw [hj0] at hb'
   rw [h.len, hj0] at hu
   cases hb'
   cases hu
   exact Kd.R_nil _ _ _ _ _
 ·rcases Nat.lt_or_ge j vs.length with hj | hj
  ·rw [List.getElem?_append_left hj] at hu
   rcases Nat.lt_or_ge k vs.length with hk | hk
   ·rw [List.getElem?_append_left hk] at hu'
    exact h.apart j k u u' hjk hu hu' q hq
   ·rw [List.getElem?_append_right hk] at hu'
    have : k - vs.length = 0 := by
     have := (List.getElem?_eq_some_iff.1 hu').1
     simp at this
     omega
    rw [this] at hu'
    cases hu'
    simp [Value.ownBlock]
  ·rw [List.getElem?_append_right hj] at hu
   have : j - vs.length = 0 := by
    have := (List.getElem?_eq_some_iff.1 hu).1
    simp at this
    omega
   rw [this] at hu
   cases hu
   simp [Value.ownBlock] at hq
end Go.Proofs.YtfflbeenkfaemaaGreatDoor.Ext
