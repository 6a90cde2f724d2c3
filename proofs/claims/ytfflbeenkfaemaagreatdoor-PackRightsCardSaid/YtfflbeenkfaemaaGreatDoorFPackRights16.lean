/- One of the texts of this claim: Rights, OpenP. -/
import Derived.Test.YtfflbeenkfaemaaGreatDoorCards
import Derived.Test.YtfflbeenkfaemaaGreatDoorTie
import Derived.WalkKit
import Derived.ProofKit
import Derived.OpenShut
import Derived.ShutString
import Derived.ChangeOld
import Derived.Below
import Derived.Carry
import Derived.SliceStrings
import Derived.Deep.Slices
import Derived.SizedLaws
import Derived.Deep.DeepHandedRow
import Derived.Deep.DeepWitnessRowRef
import Derived.Lib.LaidTab
import Derived.Lib.AppendIntMem
import Derived.Stop.LaidErr
import Derived.Test.YtfflbeenkfaemaaGreatDoorFPackRights15
namespace Go.Proofs.YtfflbeenkfaemaaGreatDoor.Ext
open Go.RowKit Go.Proofs.YtfflbeenkfaemaaGreatDoor.Ref Go.Proofs.YtfflbeenkfaemaaGreatDoorW.PrintWords Go.Proofs.YtfflbeenkfaemaaGreatDoorW.PrintLast
theorem few_shrt {l : List X.S55} (h : fewL l = true) : Shrt l := by
 unfold fewL at h
 rw [Bool.and_eq_true, List.all_eq_true, decide_eq_true_eq] at h
 refine ⟨by omega, fun x hx => ?_⟩
 have h1 := h.2 x hx
 unfold fewOne at h1
 simp only [Bool.and_eq_true, decide_eq_true_eq] at h1
 exact h1.1
theorem LotA.LC {w : World} {A : Option Addr} {c : Nat} {l : List X.S55} (h : LotA w A c l) (hl : l.length ≤ 100000) : LC w A l := ⟨h.row, hl, fun x hx => (h.lots x hx).1⟩
theorem BoxA.BC {w : World} {A : Option Addr} {c : Nat} {bs : List X.S44} (h : BoxA w A c bs) (hb : boxesL bs = true) : BC w A bs := by
 unfold boxesL at hb
 rw [Bool.and_eq_true, List.all_eq_true, decide_eq_true_eq] at hb
 refine ⟨h.row, by omega, fun b hb2 => ?_, h.marks, fun b hb2 x hx => (h.lots b hb2 x hx).1⟩
 have h1 := hb.1 b hb2
 unfold boxOne at h1
 simp only [Bool.and_eq_true, decide_eq_true_eq] at h1
 omega
theorem BoxA.shrt {w : World} {A : Option Addr} {c : Nat} {bs : List X.S44} (h : BoxA w A c bs) (hb : boxesL bs = true) : ShrtB bs := by
 unfold boxesL at hb
 rw [Bool.and_eq_true, List.all_eq_true, decide_eq_true_eq] at hb
 refine ⟨by omega, fun b hb2 => ?_⟩
 have h1 := hb.1 b hb2
 unfold boxOne at h1
 simp only [Bool.and_eq_true, decide_eq_true_eq] at h1
 exact ⟨few_shrt h1.1.2, by omega, fun x hx => (h.lots b hb2 x hx).2.2⟩
set_option maxHeartbeats 4000000 in
set_option maxRecDepth 100000 in
theorem PackRights_any (A0 A1 A2 : Option Addr) (c0 c1 c2 : Nat) (gs : List X.S30) (bs : List X.S44) (l : List X.S55) (w : World) (hg : GoodA w A0 c0 gs) (hr : BoxA w A1 c1 bs) (hl : LotA w A2 c2 l) (hap : ApartAt w) (HT : TB w) :
  Calls Tryz.prog 8 #[.slice A0 gs.length c0, .slice A1 bs.length c1, .slice A2 l.length c2] w fun e w' => e = .returned (.bool true) ∧ Below w.heap.size w w' := by
 have cA := fun W (hW : Below w.heap.size w W) => awake_any W (hap.below hW) (HT.below hW)
 have cF := fun W (hW : Below w.heap.size w W) => few_any (hg.below hW) (hl.below hW)
 have cB := fun W (hW : Below w.heap.size w W) => boxes_any (hr.below hW)
 have cA0 := cA w (Below.refl _ _)
 cases hf : fewG gs l with
 | false =>
  rw [hf] at cF
  clear cB
  go_enter Tryz.func8, Tryz.ntmps8
  go_wp2_with fail
  refine cA0.mono ?_
  rintro e w1 ⟨rfl, hb1⟩
  have hB1 := below_step (Below.refl _ _) hb1
  have cF1 := cF w1 hB1
  go_wp2_with fail
  refine cF1.mono ?_
  rintro e w2 ⟨rfl, hb2⟩
  have hB2 := below_step hB1 hb2
  have cA2 := cA w2 hB2
  go_wp2_with fail
  refine cA2.mono ?_
  rintro e w3 ⟨rfl, hb3⟩
  have hB3 := below_step hB2 hb3
  go_wp2_with fail
  go_ret
  exact ⟨rfl, hB3⟩
 | true =>
  rw [hf] at cF
  obtain ⟨n1, n2, hfl⟩ := fewG_parts hf
  cases hb : boxesL bs with
  | false =>
   rw [hb] at cB
   go_enter Tryz.func8, Tryz.ntmps8
   go_wp2_with fail
   refine cA0.mono ?_
   rintro e w1 ⟨rfl, hb1⟩
   have hB1 := below_step (Below.refl _ _) hb1
   have cF1 := cF w1 hB1
   go_wp2_with fail
   refine cF1.mono ?_
   rintro e w2 ⟨rfl, hb2⟩
   have hB2 := below_step hB1 hb2
   have cB2 := cB w2 hB2
   go_wp2_with fail
   refine cB2.mono ?_
   rintro e w3 ⟨rfl, hb3⟩
   have hB3 := below_step hB2 hb3
   have cA3 := cA w3 hB3
   go_wp2_with fail
   refine cA3.mono ?_
   rintro e w4 ⟨rfl, hb4⟩
   have hB4 := below_step hB3 hb4
   go_wp2_with fail
   go_ret
   exact ⟨rfl, hB4⟩
  | true =>
   rw [hb] at cB
   have cT := fun W (hW : Below w.heap.size w W) => tab_any (hg.below hW) n1
   by_cases hN : newB gs = 0
   ·have hok := goodsOk_new hN
    have cT2 : ∀ W, Below w.heap.size w W → Calls Tryz.prog 25 #[.slice A0 gs.length c0] W fun e w' => ∃ t, e = .returned (.pointer (some ⟨t, 0, none⟩)) ∧ TabIn w' t gs ∧ Below W.heap.size W w' := fun W hW => (cT W hW).mono fun e w' ⟨v, he, hp, hb⟩ => by
     unfold TabPost at hp
     rw [if_pos hN] at hp
     obtain ⟨t, rfl, ht⟩ := hp
     exact ⟨t, he, ht, hb⟩
    clear cT
    have cR := fun (t : Nat) W (hW : Below w.heap.size w W) (ht : TabIn W t gs) => Right_pack t gs A1 c1 bs A2 c2 l W ⟨ht, hap.below hW, hok⟩ ((hr.below hW).BC hb) hr.cap ((hl.below hW).LC (by omega))
    have cD := fun W (hW : Below w.heap.size w W) => X.supercargoref12_Right.calls 10000 A0 c0 gs A1 c1 bs A2 c2 l _ W (hg.below hW).row hg.cap (hr.below hW).row hr.cap (hl.below hW).row hl.cap (refRight_f gs hok n1 bs (hr.shrt hb) l (by omega) (fun x hx => (hl.lots x hx).2.2) 10000 (by omega))
    generalize packedOk gs bs l = R at cR cD
    go_enter Tryz.func8, Tryz.ntmps8
    go_wp2_with fail
    refine cA0.mono ?_
    rintro e w1 ⟨rfl, hb1⟩
    have hB1 := below_step (Below.refl _ _) hb1
    have cF1 := cF w1 hB1
    go_wp2_with fail
    refine cF1.mono ?_
    rintro e w2 ⟨rfl, hb2⟩
    have hB2 := below_step hB1 hb2
    have cB2 := cB w2 hB2
    go_wp2_with fail
    refine cB2.mono ?_
    rintro e w3 ⟨rfl, hb3⟩
    have hB3 := below_step hB2 hb3
    have cT3 := cT2 w3 hB3
    go_wp2_with fail
    refine cT3.mono ?_
    rintro e w4 ⟨t, rfl, ht, hb4⟩
    have hB4 := below_step hB3 hb4
    have cR4 := cR t w4 hB4 ht
    go_wp2_with fail
    refine cR4.mono ?_
    rintro e w5 ⟨rfl, hb5⟩
    have hB5 := below_step hB4 hb5
    have cD5 := cD w5 hB5
    go_wp2_with fail
    refine cD5.mono ?_
    rintro e w6 ⟨rfl, hb6⟩
    have hB6 := below_step hB5 hb6
    go_wp2_with fail
    go_ret
    exact ⟨by simp, hB6⟩
   ·have cT2 : ∀ W, Below w.heap.size w W → Calls Tryz.prog 25 #[.slice A0 gs.length c0] W fun e w' => e = .returned (.pointer none) ∧ Below W.heap.size W w' := fun W hW => (cT W hW).mono fun e w' ⟨v, he, hp, hb⟩ => by
     unfold TabPost at hp
     rw [if_neg hN] at hp
     subst hp
     exact ⟨he, hb⟩
    clear cT
    go_enter Tryz.func8, Tryz.ntmps8
    go_wp2_with fail
    refine cA0.mono ?_
    rintro e w1 ⟨rfl, hb1⟩
    have hB1 := below_step (Below.refl _ _) hb1
    have cF1 := cF w1 hB1
    go_wp2_with fail
    refine cF1.mono ?_
    rintro e w2 ⟨rfl, hb2⟩
    have hB2 := below_step hB1 hb2
    have cB2 := cB w2 hB2
    go_wp2_with fail
    refine cB2.mono ?_
    rintro e w3 ⟨rfl, hb3⟩
    have hB3 := below_step hB2 hb3
    have cT3 := cT2 w3 hB3
    go_wp2_with fail
    refine cT3.mono ?_
    rintro e w4 ⟨rfl, hb4⟩
    have hB4 := below_step hB3 hb4
    go_wp2_with fail
    go_ret
    exact ⟨rfl, hB4⟩
end Go.Proofs.YtfflbeenkfaemaaGreatDoor.Ext
namespace Go.Proofs.YtfflbeenkfaemaaGreatDoor.Ext
open Go.ChangeShapes Go.WideShapes Go.ChangeAt Go.RowKit Go.Deep Go.Proofs.YtfflbeenkfaemaaGreatDoorW.PrintWords
theorem cellsS : Tryz.prog.cellsOf 9 = 1 := by kernel_rfl
theorem cellsI : Tryz.prog.cellsOf 3 = 1 := by kernel_rfl
theorem wf_range {n : Int} (h : (Lit.int .i64 n).wf = true) : -9223372036854775808 ≤ n ∧ n ≤ 9223372036854775807 := by
 simp only [Lit.wf, Bool.and_eq_true, decide_eq_true_eq] at h
 have h1 : IntKind.i64.min = -9223372036854775808 := rfl
 have h2 : IntKind.i64.max = 9223372036854775807 := rfl
 rw [h1, h2] at h
 exact h
set_option maxRecDepth 100000 in
theorem slice_Q {H : Type} {enc : TypeId × Value → H} {W : World} {base : Nat} {spare : Nat → Bool} {held : Bool} {t e : TypeId} {α : Type} (k : Kd α) (Q : α → Prop)
  (ht : Tryz.prog.underlying t = some (.slice e)) (hsz : Tryz.prog.cellsOf e = k.sz) (hel : ∀ n cs y, DataW.trod enc Tryz.prog W base spare held n e cs = some y → ∃ x, k.K W x cs ∧ Q x)
  {fuel : Nat} {cs : List Value} {y : DataW H × List MemPlace} (hf : DataW.trod enc Tryz.prog W base spare held fuel t cs = some y) :
  ∃ (A : Option Addr) (l : List α) (c : Nat), cs = [.slice A l.length c] ∧ l.length ≤ c ∧ l.length ≤ 9223372036854775807 ∧ Kd.C k W A l.length l ∧ ∀ x ∈ l, Q x := by
 rcases open_slice ht hf with ⟨rfl, _⟩ | ⟨a, len, cap, m, n, D, Pl, rfl, _, hl, hm, hmm, _, hi⟩
 ·exact ⟨none, [], 0, rfl, Nat.le_refl _, by simp, Kd.C_nil _ _, fun _ h => by cases h⟩
 ·have hle : len ≤ m := by rw [hmm]; split <;> omega
  have each : ∀ j, j < len → ∃ x c, c.length = k.sz ∧ k.K W x c ∧ Q x ∧ ∀ i u, c[i]? = some u → W.cell? (a.add (j * k.sz + i)) = some u := by
   intro j hj
   obtain ⟨cs, hc, htr⟩ := hi j (by omega)
   obtain ⟨x, hx, hQ⟩ := hel _ _ _ htr
   obtain ⟨_, hcl, hat⟩ := World.cells?_some hc
   rw [hsz] at hcl hat
   refine ⟨x, cs, hcl, hx, hQ, fun i u hu => ?_⟩
   have hil : i < k.sz := by have := (List.getElem?_eq_some_iff.1 hu).1; omega
   have := hat i hil
   rw [hu] at this
   rw [← this, Go.Addr.add_add]
  have build : ∀ q, q ≤ len → ∃ l : List α, l.length = q ∧ ∀ j x, l[j]? = some x → Q x ∧ ∃ c, c.length = k.sz ∧ k.K W x c ∧ ∀ i u, c[i]? = some u → W.cell? (a.add (j * k.sz + i)) = some u := by
   intro q
   induction q with
   | zero => exact fun _ => ⟨[], rfl, fun j x hx => by simp at hx⟩
   | succ q ih =>
    intro hq
    obtain ⟨l, hll, hle⟩ := ih (by omega)
    obtain ⟨x, c, h1, h2, h3, h4⟩ := each q (by omega)
    refine ⟨l ++ [x], by simp [hll], fun j y hy => ?_⟩
    by_cases hj : j < l.length
    ·rw [List.getElem?_append_left hj] at hy
     exact hle j y hy
    ·have hjq : j = q := by have := (List.getElem?_eq_some_iff.1 hy).1; simp [hll] at this; omega
     subst hjq
     rw [← hll, List.getElem?_concat_length] at hy
     obtain rfl := Option.some.inj hy
     exact ⟨h3, c, h1, h2, h4⟩
  obtain ⟨l, hll, hat⟩ := build len (Nat.le_refl _)
  subst hll
  refine ⟨some a, l, cap, rfl, hl, by unfold maxLen at hm; omega, ⟨rfl, by unfold maxLen at hm; omega, fun _ => ⟨a, rfl, fun j x hx => (hat j x hx).2⟩⟩, fun x hx => ?_⟩
  obtain ⟨j, hj, rfl⟩ := List.getElem_of_mem hx
  exact (hat j _ (List.getElem?_eq_getElem hj)).1
/-- What a lot that is read is. -/
def QLot (x : X.S55) : Prop := x.f0.size ≤ 9223372036854775807 ∧ -9223372036854775808 ≤ x.f1 ∧ x.f1 ≤ 9223372036854775807
def QGood (x : X.S30) : Prop := x.f0.size ≤ 9223372036854775807 ∧ (-9223372036854775808 ≤ x.f1 ∧ x.f1 ≤ 9223372036854775807) ∧ (-9223372036854775808 ≤ x.f2 ∧ x.f2 ≤ 9223372036854775807) ∧ (-9223372036854775808 ≤ x.f3 ∧ x.f3 ≤ 9223372036854775807)
def QBox (x : X.S44) : Prop := x.f0.size ≤ 9223372036854775807 ∧ (-9223372036854775808 ≤ x.f1 ∧ x.f1 ≤ 9223372036854775807) ∧ ∀ y ∈ x.f2, QLot y
theorem str_le {s : ByteArray} (h : s.size ≤ maxLen) : s.size ≤ 9223372036854775807 := by unfold maxLen at h; omega
set_option maxRecDepth 100000 in
theorem lot_K {H : Type} {enc : TypeId × Value → H} {W : World} {base : Nat} {spare : Nat → Bool} {held : Bool} {n : Nat} {cs : List Value} {y : DataW H × List MemPlace} (h : DataW.trod enc Tryz.prog W base spare held n 55 cs = some y) : ∃ x, X.k55.K W x cs ∧ QLot x := by
 obtain ⟨xs, n, _, hx, hlen, hxlen, hg⟩ := DataW.trod_struct Tryz.underlying55 h
 have hxl : xs.length = 2 := hxlen
 have hc : Tryz.prog.cellsOf 55 = 2 := by kernel_rfl
 rw [hc] at hlen
 match cs, hlen with
 | [c0, c1], _ =>
  have f0 := hg 0 _ rfl
  have f1 := hg 1 _ rfl
  rw [List.getElem?_eq_getElem (by omega)] at f0 f1
  obtain ⟨s0, q0, _, r0⟩ := DataW.trod_string Tryz.underlying9 f0
  obtain ⟨n1, q1, _, r1⟩ := DataW.trod_int Tryz.underlying3 f1
  have z0 : c0 = .string s0 := by simpa [cellsS] using q0
  have z1 : c1 = .int .i64 n1 := by simpa [cellsI] using q1
  rw [z0, z1]
  exact ⟨⟨s0, n1⟩, X.k55_mk _ _, str_le r0, wf_range r1⟩
set_option maxRecDepth 100000 in
theorem good_K {H : Type} {enc : TypeId × Value → H} {W : World} {base : Nat} {spare : Nat → Bool} {held : Bool} {n : Nat} {cs : List Value} {y : DataW H × List MemPlace} (h : DataW.trod enc Tryz.prog W base spare held n 30 cs = some y) : ∃ x, X.k30.K W x cs ∧ QGood x := by
 obtain ⟨xs, n, _, hx, hlen, hxlen, hg⟩ := DataW.trod_struct Tryz.underlying30 h
 have hxl : xs.length = 4 := hxlen
 have hc : Tryz.prog.cellsOf 30 = 4 := by kernel_rfl
 rw [hc] at hlen
 match cs, hlen with
 | [c0, c1, c2, c3], _ =>
  have f0 := hg 0 _ rfl
  have f1 := hg 1 _ rfl
  have f2 := hg 2 _ rfl
  have f3 := hg 3 _ rfl
  rw [List.getElem?_eq_getElem (by omega)] at f0 f1 f2 f3
  obtain ⟨s0, q0, _, r0⟩ := DataW.trod_string Tryz.underlying9 f0
  obtain ⟨n1, q1, _, r1⟩ := DataW.trod_int Tryz.underlying3 f1
  obtain ⟨n2, q2, _, r2⟩ := DataW.trod_int Tryz.underlying3 f2
  obtain ⟨n3, q3, _, r3⟩ := DataW.trod_int Tryz.underlying3 f3
  have z0 : c0 = .string s0 := by simpa [cellsS] using q0
  have z1 : c1 = .int .i64 n1 := by simpa [cellsI] using q1
  have z2 : c2 = .int .i64 n2 := by simpa [cellsI] using q2
  have z3 : c3 = .int .i64 n3 := by simpa [cellsI] using q3
  rw [z0, z1, z2, z3]
  exact ⟨⟨s0, n1, n2, n3⟩, X.k30_mk _ _, str_le r0, wf_range r1, wf_range r2, wf_range r3⟩
set_option maxRecDepth 100000 in
theorem box_K {H : Type} {enc : TypeId × Value → H} {W : World} {base : Nat} {spare : Nat → Bool} {held : Bool} {n : Nat} {cs : List Value} {y : DataW H × List MemPlace} (h : DataW.trod enc Tryz.prog W base spare held n 44 cs = some y) : ∃ x, X.k44.K W x cs ∧ QBox x := by
 obtain ⟨xs, n, _, hx, hlen, hxlen, hg⟩ := DataW.trod_struct Tryz.underlying44 h
 have hxl : xs.length = 3 := hxlen
 have hc : Tryz.prog.cellsOf 44 = 3 := by kernel_rfl
 have hcl : Tryz.prog.cellsOf 35 = 1 := by kernel_rfl
 rw [hc] at hlen
 match cs, hlen with
 | [c0, c1, c2], _ =>
  have f0 := hg 0 _ rfl
  have f1 := hg 1 _ rfl
  have f2 := hg 2 _ rfl
  rw [List.getElem?_eq_getElem (by omega)] at f0 f1 f2
  obtain ⟨s0, q0, _, r0⟩ := DataW.trod_string Tryz.underlying9 f0
  obtain ⟨n1, q1, _, r1⟩ := DataW.trod_int Tryz.underlying3 f1
  obtain ⟨A2, l2, k2, q2, g2, _, C2, Q2⟩ := slice_Q X.k55 QLot Tryz.underlying35 (by kernel_rfl) (fun _ _ _ ht => lot_K ht) f2
  have z0 : c0 = .string s0 := by simpa [cellsS] using q0
  have z1 : c1 = .int .i64 n1 := by simpa [cellsI] using q1
  have z2 : c2 = .slice A2 l2.length k2 := by simpa [hcl] using q2
  rw [z0, z1, z2]
  exact ⟨⟨s0, n1, l2⟩, X.k44_mk W ⟨s0, n1, l2⟩ g2 C2, str_le r0, wf_range r1, Q2⟩
set_option maxRecDepth 100000 in
theorem slice_A {H : Type} {enc : TypeId × Value → H} {W : World} {base : Nat} {spare : Nat → Bool} {held : Bool} {r : Reach} {b0 : Nat} {v : Value} {d : DataW H} {p : List MemPlace} {t e : TypeId} {α : Type} (k : Kd α) (Q : α → Prop)
  (ht : Tryz.prog.underlying t = some (.slice e)) (hsz : Tryz.prog.cellsOf e = k.sz) (hel : ∀ n cs y, DataW.trod enc Tryz.prog W base spare held n e cs = some y → ∃ x, k.K W x cs ∧ Q x)
  (hv : Value.okWide Tryz.prog W r b0 t v) (h : DataW.Trod enc Tryz.prog W base spare held t v d p) :
  ∃ (A : Option Addr) (l : List α) (c : Nat), v = .slice A l.length c ∧ l.length ≤ c ∧ l.length ≤ 9223372036854775807 ∧ Kd.C k W A l.length l ∧ ∀ x ∈ l, Q x := by
 obtain ⟨a0, len, cap, rfl⟩ := okWide_slice ht hv
 obtain ⟨fuel, hf⟩ := h
 obtain ⟨A, l, c, e, r⟩ := slice_Q k Q ht hsz hel hf
 exact ⟨A, l, c, by simpa [Value.cells] using e, r⟩
set_option maxRecDepth 100000 in
theorem goods_A {H : Type} {enc : TypeId × Value → H} {W : World} {base : Nat} {spare : Nat → Bool} {held : Bool} {r : Reach} {b0 : Nat} {v : Value} {d : DataW H} {p : List MemPlace} (hv : Value.okWide Tryz.prog W r b0 25 v) (h : DataW.Trod enc Tryz.prog W base spare held 25 v d p) :
  ∃ (A : Option Addr) (l : List X.S30) (c : Nat), v = .slice A l.length c ∧ l.length ≤ c ∧ l.length ≤ 9223372036854775807 ∧ Kd.C X.k30 W A l.length l ∧ ∀ x ∈ l, QGood x :=
 slice_A X.k30 QGood Tryz.underlying25 (by kernel_rfl) (fun _ _ _ ht => good_K ht) hv h
set_option maxRecDepth 100000 in
theorem lots_A {H : Type} {enc : TypeId × Value → H} {W : World} {base : Nat} {spare : Nat → Bool} {held : Bool} {r : Reach} {b0 : Nat} {v : Value} {d : DataW H} {p : List MemPlace} (hv : Value.okWide Tryz.prog W r b0 35 v) (h : DataW.Trod enc Tryz.prog W base spare held 35 v d p) :
  ∃ (A : Option Addr) (l : List X.S55) (c : Nat), v = .slice A l.length c ∧ l.length ≤ c ∧ l.length ≤ 9223372036854775807 ∧ Kd.C X.k55 W A l.length l ∧ ∀ x ∈ l, QLot x :=
 slice_A X.k55 QLot Tryz.underlying35 (by kernel_rfl) (fun _ _ _ ht => lot_K ht) hv h
set_option maxRecDepth 100000 in
theorem boxes_A {H : Type} {enc : TypeId × Value → H} {W : World} {base : Nat} {spare : Nat → Bool} {held : Bool} {r : Reach} {b0 : Nat} {v : Value} {d : DataW H} {p : List MemPlace} (hv : Value.okWide Tryz.prog W r b0 37 v) (h : DataW.Trod enc Tryz.prog W base spare held 37 v d p) :
  ∃ (A : Option Addr) (l : List X.S44) (c : Nat), v = .slice A l.length c ∧ l.length ≤ c ∧ l.length ≤ 9223372036854775807 ∧ Kd.C X.k44 W A l.length l ∧ ∀ x ∈ l, QBox x :=
 slice_A X.k44 QBox Tryz.underlying37 (by kernel_rfl) (fun _ _ _ ht => box_K ht) hv h
end Go.Proofs.YtfflbeenkfaemaaGreatDoor.Ext
namespace Go.Proofs.YtfflbeenkfaemaaGreatDoor.Base
open Go.ChangeShapes Go.WideShapes Go.ChangeAt Go.RowKit Go.Deep
theorem laidOut : laidOutB Tryz.prog = true := by kernel_rfl
theorem own : ownKnob Tryz.prog.godebug = none := by kernel_rfl
theorem gPow : Tryz.prog.globalNamed "internal/strconv.uint64pow10" = some 3 := by kernel_rfl
theorem gPowType : (Tryz.prog.globals[3]?).map (·.type) = some 228 := by kernel_rfl
theorem cellsPow : Tryz.prog.cellsOf 228 = 20 := by kernel_rfl
theorem cellsU64 : Tryz.prog.cellsOf 114 = 1 := by kernel_rfl
theorem gApart : Tryz.prog.globalNamed "supercargo/goods.apart" = some 0 := by kernel_rfl
theorem gApartType : (Tryz.prog.globals[0]?).map (·.type) = some 140 := by kernel_rfl
theorem cellsApart : Tryz.prog.cellsOf 140 = 10 := by kernel_rfl
theorem cellsRow : Tryz.prog.cellsOf 95 = 1 := by kernel_rfl
/-- One row of the table. -/
def rowD (zs : List Int) : DataW Unit := if zs = [] then .nil else .slice (zs.map fun z => .lit (.int .i64 z)) []
theorem addNone (b o j : Nat) : (⟨b, o, none⟩ : Addr).add j = ⟨b, o + j, none⟩ := by
 unfold Addr.add
 by_cases h : j = 0 <;> simp [h]
theorem spot_none {w : World} {a : Addr} {v : Value} (h : w.cell? a = some v) : a = ⟨a.block, a.off, none⟩ := by
 unfold World.cell? at h
 split at h
 ·obtain ⟨b, o, s⟩ := a
  cases s with
  | none => rfl
  | some s => simp at h
 ·cases h
set_option maxRecDepth 100000 in
theorem row_at {w : World} {fuel : Nat} {v : Value} {zs : List Int} {p : List MemPlace} (h : DataW.trod (fun _ => ()) Tryz.prog w 0 (fun _ => true) false fuel 95 [v] = some (rowD zs, p)) : Ext.RowAt w v zs := by
 rcases open_slice Tryz.underlying95 h with ⟨hv, hd⟩ | ⟨a, len, cap, m, n, D, Pl, hv, _, hl, hm, hmm, hd, hi⟩
 ·obtain rfl : v = .slice none 0 0 := by simpa using hv
  left
  refine ⟨?_, none, 0, rfl⟩
  unfold rowD at hd
  split at hd
  ·assumption
  ·cases hd
 ·obtain rfl : v = .slice (some a) len cap := by simpa using hv
  by_cases hz : zs = []
  ·unfold rowD at hd
   rw [if_pos hz] at hd
   cases hd
  ·right
   unfold rowD at hd
   rw [if_neg hz] at hd
   injection hd with hd _
   injection hd with hd _
   have hle : len ≤ m := by rw [hmm]; split <;> omega
   have hlen : zs.length = len := by
    have := congrArg List.length hd
    simpa using this
   have hpos : 0 < zs.length := List.length_pos_iff.2 hz
   have each : ∀ j, j < len → w.cell? (a.add j) = some (.int .i64 (zs.getD j 0)) := fun j hj => by
    obtain ⟨cs, hc, htr⟩ := hi j (by omega)
    obtain ⟨x, hx, he, _⟩ := DataW.trod_int Tryz.underlying3 htr
    obtain ⟨_, hcl, hat⟩ := World.cells?_some hc
    subst hx
    rw [Ext.cellsI] at hat
    have h1 := hat 0 (by omega)
    rw [Go.Addr.add_add, Nat.mul_one, Nat.add_zero] at h1
    injection he with he _
    have h2 : (zs.map fun z => (DataW.lit (.int .i64 z) : DataW Unit))[j]? = ((List.range len).map D)[j]? := by rw [hd]
    rw [List.getElem?_map, List.getElem?_map, List.getElem?_range hj, List.getElem?_eq_getElem (by omega)] at h2
    simp only [Option.map_some, Option.some.injEq] at h2
    rw [he] at h2
    injection h2 with h2
    injection h2 with _ h2
    rw [h1]
    simp [List.getD, List.getElem?_eq_getElem (show j < zs.length by omega), h2]
   have ha := spot_none (each 0 (by omega))
   have ha0 : a.add 0 = a := rfl
   rw [ha0] at ha
   generalize a.block = b at ha
   generalize a.off = o at ha
   subst ha
   refine ⟨b, o, cap, by rw [hlen], fun j hj => ?_⟩
   have := each j (by omega)
   rw [addNone] at this
   exact this
set_option maxRecDepth 100000 in
theorem ap_of_head {W : World} (h : laidMet Tryz.prog [("supercargo/goods.apart", Rows.laid_supercargo_goods_apart)] W) : Ext.ApartAt W := by
 obtain ⟨ps, ⟨g', t', cs, fuel, p, q, hg', ht', hvar, hd, _, _⟩, _⟩ := h
 obtain rfl := Option.some.inj (gApart.symm.trans hg')
 obtain rfl := Option.some.inj (gApartType.symm.trans ht')
 have c := fun i => World.var?_cell gApart hvar i
 cases fuel with
 | zero => simp [DataW.trod] at hd
 | succ fuel =>
  simp only [DataW.trod, Tryz.underlying140, cellsRow, Nat.mul_one, cellsApart] at hd
  split at hd
  ·rename_i hl
   obtain ⟨xs, hm, hx⟩ := Option.map_eq_some_iff.1 hd
   injection hx with hx _
   have hxs : xs.map (·.1) = Ext.apartT.map rowD := by
    injection hx with hx
   have hxl : xs.length = 10 := by simpa using Lib.mapM_length hm
   intro i hi
   obtain ⟨b, hb, hf⟩ := Lib.mapM_at hm i i (by simp [hi])
   have hci : cs.toList[i]? = some (cs.toList[i]'(by omega)) := List.getElem?_eq_getElem _
   have h1 : (cs.toList.drop i).take 1 = [cs.toList[i]'(by omega)] := by
    rw [List.drop_eq_getElem_cons (by omega)]
    rfl
   rw [h1] at hf
   obtain ⟨b1, b2⟩ := b
   have h2 : (xs.map (·.1))[i]? = some b1 := by simp [hb]
   rw [hxs, List.getElem?_map] at h2
   have h3 : Ext.apartT[i]? = some (Ext.apartT.getD i []) := by
    have : i < Ext.apartT.length := hi
    simp [List.getD, List.getElem?_eq_getElem this]
   rw [h3] at h2
   simp only [Option.map_some, Option.some.injEq] at h2
   subst h2
   refine ⟨_, (c i).trans ?_, row_at hf⟩
   rw [← Array.getElem?_toList, hci]
  ·cases hd
end Go.Proofs.YtfflbeenkfaemaaGreatDoor.Base
