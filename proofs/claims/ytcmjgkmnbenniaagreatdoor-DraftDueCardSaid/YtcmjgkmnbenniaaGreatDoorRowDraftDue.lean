/- DraftDue: the openings of a calendar and of a draft; the tables; the row; the card. For every input the law returns true and leaves its arguments as they were, in every world that holds the listed tables. No other condition. -/
import Derived.Test.YtcmjgkmnbenniaaGreatDoorCards
import Derived.Test.YtcmjgkmnbenniaaGreatDoorTie
import Derived.Test.YtcmjgkmnbenniaaGreatDoorPureDraftDue
import Derived.Test.YtcmjgkmnbenniaaGreatDoorBill
import Derived.Test.YtcmjgkmnbenniaaGreatDoorYx2
import Derived.WalkKit
import Derived.ProofKit
import Derived.OpenShut
import Derived.ShutString
import Derived.ChangeOld
import Derived.Below
import Derived.Carry
import Derived.SliceStrings
import Derived.Deep.Slices
import Derived.SizedLaws
import Derived.Deep.DeepHandedRow
import Derived.Lib.LaidTab
import Derived.Lib.AppendIntMem
import Derived.Stop.LaidErr
namespace Go.Proofs.YtcmjgkmnbenniaaGreatDoor.Ext
open Go.ChangeShapes Go.WideShapes Go.ChangeAt Go.RowKit Go.Deep Go.Proofs.YtcmjgkmnbenniaaGreatDoorW.PrintWords
theorem cellsD : Tryz.prog.cellsOf 28 = 9 := by kernel_rfl
theorem cellsS : Tryz.prog.cellsOf 9 = 1 := by kernel_rfl
theorem cellsI : Tryz.prog.cellsOf 3 = 1 := by kernel_rfl
theorem cellsI64 : Tryz.prog.cellsOf 2 = 1 := by kernel_rfl
theorem cellsM : Tryz.prog.cellsOf 26 = 2 := by kernel_rfl
set_option maxRecDepth 100000 in
theorem open_draft {H : Type} {enc : TypeId × Value → H} {w : World} {base : Nat} {spare : Nat → Bool} {held : Bool} {r : Reach} {b0 : Nat} {v : Value} {d : DataW H} {p : List MemPlace} (hv : Value.okWide Tryz.prog w r b0 28 v) (h : DataW.Trod enc Tryz.prog w base spare held 28 v d p) :
    ∃ dr : Dr, v = .agg dr.arr := by
  obtain ⟨cs, rfl, hsz⟩ := okWide_struct Tryz.underlying28 hv
  obtain ⟨l⟩ := cs
  obtain ⟨fuel, hf⟩ := h
  obtain ⟨xs, n, _, hx, hlen, hxlen, hg⟩ := DataW.trod_struct Tryz.underlying28 hf
  have hat : ∀ (i : Nat) (f : Field) (fs : Array Field) (hfs : fs[i]? = some f) (ho : ∀ f, fs[i]? = some f → DataW.trod enc Tryz.prog w base spare held n f.type ((l.drop f.offset).take (Tryz.prog.cellsOf f.type)) = xs[i]?) (hi : i < xs.length), ∃ y, DataW.trod enc Tryz.prog w base spare held n f.type ((l.drop f.offset).take (Tryz.prog.cellsOf f.type)) = some y := fun i f fs hfs ho hi => ⟨xs[i], by rw [ho f hfs, List.getElem?_eq_getElem hi]⟩
  have hxl : xs.length = 8 := hxlen
  match l, hsz.trans cellsD with
  | [c0, c1, c2, c3, c4, c5, c6, c7, c8], _ =>
    obtain ⟨y0, e0⟩ := hat 0 _ _ rfl (hg 0) (by omega)
    obtain ⟨s0, q0, _⟩ := DataW.trod_string Tryz.underlying9 e0
    have z0 : c0 = .string s0 := by simpa [cellsS] using q0
    obtain ⟨y1, e1⟩ := hat 1 _ _ rfl (hg 1) (by omega)
    obtain ⟨s1, q1, _⟩ := DataW.trod_string Tryz.underlying9 e1
    have z1 : c1 = .string s1 := by simpa [cellsS] using q1
    obtain ⟨y2, e2⟩ := hat 2 _ _ rfl (hg 2) (by omega)
    obtain ⟨s2, q2, _⟩ := DataW.trod_string Tryz.underlying9 e2
    have z2 : c2 = .string s2 := by simpa [cellsS] using q2
    obtain ⟨y3, e3⟩ := hat 3 _ _ rfl (hg 3) (by omega)
    obtain ⟨s3, q3, _⟩ := DataW.trod_string Tryz.underlying9 e3
    have z3 : c3 = .string s3 := by simpa [cellsS] using q3
    obtain ⟨y4, e4⟩ := hat 4 _ _ rfl (hg 4) (by omega)
    obtain ⟨xs2, n2, _, _, _, hxl2, hg2⟩ := DataW.trod_struct Tryz.underlying26 e4
    have hxl3 : xs2.length = 2 := hxl2
    have f0 := hg2 0 _ rfl
    have f1 := hg2 1 _ rfl
    rw [List.getElem?_eq_getElem (by omega)] at f0 f1
    obtain ⟨s4, q4, _⟩ := DataW.trod_string Tryz.underlying9 f0
    obtain ⟨n5, q5, _⟩ := DataW.trod_int Tryz.underlying2 f1
    have z4 : c4 = .string s4 := by simpa [cellsS, cellsM] using q4
    have z5 : c5 = .int .i64 n5 := by simpa [cellsI64, cellsM] using q5
    obtain ⟨y5, e5⟩ := hat 5 _ _ rfl (hg 5) (by omega)
    obtain ⟨n6, q6, _⟩ := DataW.trod_int Tryz.underlying3 e5
    have z6 : c6 = .int .i64 n6 := by simpa [cellsI] using q6
    obtain ⟨y6, e6⟩ := hat 6 _ _ rfl (hg 6) (by omega)
    obtain ⟨n7, q7, _⟩ := DataW.trod_int Tryz.underlying3 e6
    have z7 : c7 = .int .i64 n7 := by simpa [cellsI] using q7
    obtain ⟨y7, e7⟩ := hat 7 _ _ rfl (hg 7) (by omega)
    obtain ⟨n8, q8, _⟩ := DataW.trod_int Tryz.underlying3 e7
    have z8 : c8 = .int .i64 n8 := by simpa [cellsI] using q8
    exact ⟨⟨s0, s1, s2, s3, s4, n5, n6, n7, n8⟩, by rw [z0, z1, z2, z3, z4, z5, z6, z7, z8]; rfl⟩
set_option maxRecDepth 100000 in
theorem row_C {H : Type} {enc : TypeId × Value → H} {W : World} {base : Nat} {spare : Nat → Bool} {held : Bool} {fuel : Nat} {cs : List Value} {y : DataW H × List MemPlace}
    (hf : DataW.trod enc Tryz.prog W base spare held fuel 22 cs = some y) : ∃ (A : Option Addr) (l : List Int) (c : Nat), cs = [.slice A l.length c] ∧ l.length ≤ c ∧ Kd.C (Kd.int .i64) W A l.length l := by
  rcases open_slice Tryz.underlying22 hf with ⟨rfl, _⟩ | ⟨a, len, cap, m, n, D, Pl, rfl, _, hl, hm, hmm, _, hi⟩
  · exact ⟨none, [], 0, rfl, Nat.le_refl _, Kd.C_nil _ _⟩
  · have hle : len ≤ m := by rw [hmm]; split <;> omega
    have h1 : Tryz.prog.cellsOf 3 = 1 := cellsI
    have each : ∀ j, j < len → ∃ x : Int, W.cell? (a.add j) = some (.int .i64 x) := by
      intro j hj
      obtain ⟨cs, hc, htr⟩ := hi j (by omega)
      obtain ⟨x, hx, _⟩ := DataW.trod_int Tryz.underlying3 htr
      obtain ⟨_, hcl, hat⟩ := World.cells?_some hc
      subst hx
      rw [h1] at hat
      have := hat 0 (by omega)
      rw [Go.Addr.add_add, Nat.mul_one, Nat.add_zero] at this
      exact ⟨x, this⟩
    have build : ∀ q, q ≤ len → ∃ l : List Int, l.length = q ∧ ∀ j x, l[j]? = some x → W.cell? (a.add j) = some (.int .i64 x) := by
      intro q
      induction q with
      | zero => exact fun _ => ⟨[], rfl, fun j x hx => by simp at hx⟩
      | succ q ih =>
        intro hq
        obtain ⟨l, hll, hle⟩ := ih (by omega)
        obtain ⟨x, hx⟩ := each q (by omega)
        refine ⟨l ++ [x], by simp [hll], fun j y hy => ?_⟩
        by_cases hj : j < l.length
        · rw [List.getElem?_append_left hj] at hy
          exact hle j y hy
        · have hjq : j = q := by have := (List.getElem?_eq_some_iff.1 hy).1; simp [hll] at this; omega
          subst hjq
          rw [← hll, List.getElem?_concat_length] at hy
          obtain rfl := Option.some.inj hy
          exact hx
    obtain ⟨l, hll, hat⟩ := build len (Nat.le_refl _)
    subst hll
    refine ⟨some a, l, cap, rfl, hl, rfl, by unfold maxLen at hm; omega, fun _ => ⟨a, rfl, fun j p hj => ⟨[.int .i64 p], rfl, rfl, fun i u hu => ?_⟩⟩⟩
    have hi0 : i = 0 := by have := (List.getElem?_eq_some_iff.1 hu).1; simp at this; omega
    subst hi0
    obtain rfl : Value.int .i64 p = u := by simpa using hu
    have e : j * (Kd.int .i64).sz + 0 = j := by show j * 1 + 0 = j; omega
    rw [e]
    exact hat j p hj
set_option maxRecDepth 100000 in
theorem open_cal {H : Type} {enc : TypeId × Value → H} {w : World} {base : Nat} {spare : Nat → Bool} {held : Bool} {r : Reach} {b0 : Nat} {v : Value} {d : DataW H} {p : List MemPlace} (hv : Value.okWide Tryz.prog w r b0 24 v) (h : DataW.Trod enc Tryz.prog w base spare held 24 v d p) :
    ∃ (A1 A2 : Option Addr) (l1 l2 : List Int) (c1 c2 : Nat), v = .agg #[.slice A1 l1.length c1, .slice A2 l2.length c2] ∧ l1.length ≤ c1 ∧ l2.length ≤ c2 ∧ Kd.C (Kd.int .i64) w A1 l1.length l1 ∧ Kd.C (Kd.int .i64) w A2 l2.length l2 := by
  obtain ⟨cs, rfl, hsz⟩ := okWide_struct Tryz.underlying24 hv
  obtain ⟨l⟩ := cs
  obtain ⟨fuel, hf⟩ := h
  obtain ⟨xs, n, _, hx, hlen, hxlen, hg⟩ := DataW.trod_struct Tryz.underlying24 hf
  have hxl : xs.length = 2 := hxlen
  have hc2 : Tryz.prog.cellsOf 24 = 2 := by kernel_rfl
  have hcs : Tryz.prog.cellsOf 22 = 1 := by kernel_rfl
  have f0 := hg 0 _ rfl
  have f1 := hg 1 _ rfl
  rw [List.getElem?_eq_getElem (by omega)] at f0 f1
  match l, hsz.trans hc2 with
  | [e0, e1], _ =>
    obtain ⟨A1, l1, c1, q0, k1, h1⟩ := row_C f0
    obtain ⟨A2, l2, c2, q1, k2, h2⟩ := row_C f1
    have z0 : e0 = .slice A1 l1.length c1 := by have q : ([e0, e1].drop 0).take (Tryz.prog.cellsOf 22) = [.slice A1 l1.length c1] := q0; simpa [hcs] using q
    have z1 : e1 = .slice A2 l2.length c2 := by have q : ([e0, e1].drop 1).take (Tryz.prog.cellsOf 22) = [.slice A2 l2.length c2] := q1; simpa [hcs] using q
    exact ⟨A1, A2, l1, l2, c1, c2, by rw [z0, z1], k1, k2, h1, h2⟩
end Go.Proofs.YtcmjgkmnbenniaaGreatDoor.Ext
namespace Go.Proofs.YtcmjgkmnbenniaaGreatDoor.Base
open Go.ChangeShapes Go.WideShapes Go.ChangeAt Go.RowKit
theorem laidOut : laidOutB Tryz.prog = true := by kernel_rfl
theorem own : ownKnob Tryz.prog.godebug = none := by kernel_rfl
theorem cells_of_strs {H : Type} {enc : TypeId × Value → H} {P : Program} {w : World} {base : Nat} {sp : Nat → Bool} {held : Bool} {fuel : Nat} {t e : TypeId} {n : Nat} {cs : List Value} {zs : List (List UInt8)} {p : List MemPlace}
    (ht : P.underlying t = some (.array n e)) (he : P.underlying e = some .string) (hce : P.cellsOf e = 1) (hct : P.cellsOf t = n)
    (h : DataW.trod enc P w base sp held fuel t cs = some (.agg (zs.map fun z => .lit (.string z)), p)) : cs = zs.map fun z => Value.string ⟨z.toArray⟩ := by
  cases fuel with
  | zero => simp [DataW.trod] at h
  | succ fuel =>
    simp only [DataW.trod, ht, hce, hct, Nat.mul_one] at h
    split at h
    · rename_i hl
      obtain ⟨xs, hm, hx⟩ := Option.map_eq_some_iff.1 h
      have hxs : xs.map (·.1) = zs.map fun z => (DataW.lit (.string z) : DataW H) := by
        have := congrArg Prod.fst hx
        simpa using this
      have hxl : xs.length = n := by simpa using Lib.mapM_length hm
      have hzl : zs.length = n := by
        have := congrArg List.length hxs
        simp at this
        omega
      apply List.ext_getElem?
      intro i
      by_cases hi : i < n
      · obtain ⟨b, hb, hf⟩ := Lib.mapM_at hm i i (by simp [hi])
        obtain ⟨z, hc, rfl, _⟩ := DataW.trod_string he hf
        have h1 : cs[i]? = some (.string z) := by
          have := congrArg (·[0]?) hc
          simpa [List.getElem?_take, List.getElem?_drop] using this
        have h2 : (xs.map (·.1))[i]? = some (DataW.lit (.string z.data.toList) : DataW H) := by simp [hb]
        rw [hxs] at h2
        simp only [List.getElem?_map, Option.map_eq_some_iff, DataW.lit.injEq, Lit.string.injEq] at h2
        obtain ⟨z', hz', rfl⟩ := h2
        simp [h1, hz']
      · rw [List.getElem?_eq_none (by omega), List.getElem?_eq_none (by simp; omega)]
    · cases h
theorem gPow : Tryz.prog.globalNamed "internal/strconv.uint64pow10" = some 1 := by kernel_rfl
theorem gPowType : (Tryz.prog.globals[1]?).map (·.type) = some 119 := by kernel_rfl
theorem cellsPow : Tryz.prog.cellsOf 119 = 20 := by kernel_rfl
theorem cellsU64 : Tryz.prog.cellsOf 99 = 1 := by kernel_rfl
theorem gKinds : Tryz.prog.globalNamed "supercargo/draft.kinds" = some 0 := by kernel_rfl
theorem gKindsType : (Tryz.prog.globals[0]?).map (·.type) = some 54 := by kernel_rfl
theorem cellsKinds : Tryz.prog.cellsOf 54 = 3 := by kernel_rfl
theorem cellsStr : Tryz.prog.cellsOf 9 = 1 := by kernel_rfl
theorem kt_of_head {W : World} (h : laidMet Tryz.prog [("supercargo/draft.kinds", Rows.laid_supercargo_draft_kinds)] W) : Ext.KT W := by
  obtain ⟨ps, ⟨g', t', cs, fuel, p, q, hg', ht', hvar, hd, _, _⟩, _⟩ := h
  obtain rfl := Option.some.inj (gKinds.symm.trans hg')
  obtain rfl := Option.some.inj (gKindsType.symm.trans ht')
  have hl := cells_of_strs (zs := [[115, 105, 103, 104, 116], [97, 102, 116, 101, 114, 45, 115, 105, 103, 104, 116], [97, 102, 116, 101, 114, 45, 100, 97, 116, 101]]) Tryz.underlying54 Tryz.underlying9 cellsStr cellsKinds hd
  have c := fun i => World.var?_cell gKinds hvar i
  refine ⟨(c 0).trans ?_, (c 1).trans ?_, (c 2).trans ?_⟩ <;> rw [← Array.getElem?_toList, hl] <;> rfl
theorem kt_below {W w' : World} (h : Ext.KT W) (hb : Below W.heap.size W w') : Ext.KT w' := ⟨Ext.keepy hb h.1, Ext.keepy hb h.2.1, Ext.keepy hb h.2.2⟩
theorem metH (W : World) : laidMetH Tryz.prog Rows.draftDueRow.laid W = laidMet Tryz.prog Rows.draftDueRow.laid W := by kernel_rfl
theorem tb_of_laid {W : World} (h0 : laidMetH Tryz.prog Rows.draftDueRow.laid W) : Ext.TB W := fun w' hb =>
  have h : laidMet Tryz.prog [("math/bits.deBruijn32tab", Rows.laid_math_bits_deBruijn32tab), ("math/bits.deBruijn64tab", Rows.laid_math_bits_deBruijn64tab), ("internal/strconv.uint64pow10", Rows.laid_internal_strconv_uint64pow10), ("supercargo/draft.kinds", Rows.laid_supercargo_draft_kinds)] W := (metH W) ▸ h0
  ⟨Lib.tabBelow_of_tabIs (Lib.tabIs_of_head (rest := [("supercargo/draft.kinds", Rows.laid_supercargo_draft_kinds)]) gPow gPowType Tryz.underlying119 Tryz.underlying99 cellsU64 cellsPow (laidMet.tail (laidMet.tail h))) w' hb, kt_below (kt_of_head (laidMet.tail (laidMet.tail (laidMet.tail h)))) hb⟩
/-- A world for the witness: the settled one, each listed table holding what its initialiser lays. -/
noncomputable def laidWorld (os : Os) : World := { World.holding Tryz.prog os ⟨#[], #[], []⟩ with heap := (((((((((World.holding Tryz.prog os ⟨#[], #[], []⟩).heap).modify 3 (fun | .cells _ t fr => .cells #[.int .u8 0, .int .u8 1, .int .u8 28, .int .u8 2, .int .u8 29, .int .u8 14, .int .u8 24, .int .u8 3, .int .u8 30, .int .u8 22, .int .u8 20, .int .u8 15, .int .u8 25, .int .u8 17, .int .u8 4, .int .u8 8, .int .u8 31, .int .u8 27, .int .u8 13, .int .u8 23, .int .u8 21, .int .u8 19, .int .u8 16, .int .u8 7, .int .u8 26, .int .u8 12, .int .u8 18, .int .u8 6, .int .u8 11, .int .u8 5, .int .u8 10, .int .u8 9] t fr | o => o))).modify 4 (fun | .cells _ t fr => .cells #[.int .u8 0, .int .u8 1, .int .u8 56, .int .u8 2, .int .u8 57, .int .u8 49, .int .u8 28, .int .u8 3, .int .u8 61, .int .u8 58, .int .u8 42, .int .u8 50, .int .u8 38, .int .u8 29, .int .u8 17, .int .u8 4, .int .u8 62, .int .u8 47, .int .u8 59, .int .u8 36, .int .u8 45, .int .u8 43, .int .u8 51, .int .u8 22, .int .u8 53, .int .u8 39, .int .u8 33, .int .u8 30, .int .u8 24, .int .u8 18, .int .u8 12, .int .u8 5, .int .u8 63, .int .u8 55, .int .u8 48, .int .u8 27, .int .u8 60, .int .u8 41, .int .u8 37, .int .u8 16, .int .u8 46, .int .u8 35, .int .u8 44, .int .u8 21, .int .u8 52, .int .u8 32, .int .u8 23, .int .u8 11, .int .u8 54, .int .u8 26, .int .u8 40, .int .u8 15, .int .u8 34, .int .u8 20, .int .u8 31, .int .u8 10, .int .u8 25, .int .u8 14, .int .u8 19, .int .u8 9, .int .u8 13, .int .u8 8, .int .u8 7, .int .u8 6] t fr | o => o))).modify 1 (fun | .cells _ t fr => .cells #[.int .u64 1, .int .u64 10, .int .u64 100, .int .u64 1000, .int .u64 10000, .int .u64 100000, .int .u64 1000000, .int .u64 10000000, .int .u64 100000000, .int .u64 1000000000, .int .u64 10000000000, .int .u64 100000000000, .int .u64 1000000000000, .int .u64 10000000000000, .int .u64 100000000000000, .int .u64 1000000000000000, .int .u64 10000000000000000, .int .u64 100000000000000000, .int .u64 1000000000000000000, .int .u64 10000000000000000000] t fr | o => o))).modify 0 (fun | .cells _ t fr => .cells #[.string ⟨#[115, 105, 103, 104, 116]⟩, .string ⟨#[97, 102, 116, 101, 114, 45, 115, 105, 103, 104, 116]⟩, .string ⟨#[97, 102, 116, 101, 114, 45, 100, 97, 116, 101]⟩] t fr | o => o)) }
end Go.Proofs.YtcmjgkmnbenniaaGreatDoor.Base
namespace Go.Proofs.YtcmjgkmnbenniaaGreatDoor.draftDue
open Go.ChangeShapes Go.WideShapes Go.ChangeAt Go.RowKit Go.Proofs.YtcmjgkmnbenniaaGreatDoorW.PrintWords
theorem walk (A1 A2 : Option Addr) (c1 c2 : Nat) (l1 l2 : List Int) (d : Ext.Dr) (W : World) (h1 : Kd.C (Kd.int .i64) W A1 l1.length l1) (h2 : Kd.C (Kd.int .i64) W A2 l2.length l2) (k1 : l1.length ≤ c1) (k2 : l2.length ≤ c2) (HT : Ext.TB W) :
    Calls Tryz.prog 3 #[.agg #[.slice A1 l1.length c1, .slice A2 l2.length c2], .agg d.arr] W fun e w' => e = .returned (.bool true) ∧ Below W.heap.size W w' := by
  obtain ⟨k, h⟩ := Pure.DraftDue l1 l2 d
  exact Y.supercargolaw38_DraftDue.calls k A1 c1 l1 A2 c2 l2 _ _ _ _ _ _ _ _ _ true W h1 k1 h2 k2 h HT
set_option maxRecDepth 100000 in
theorem contract (H : Type) (enc : TypeId × Value → H) (W : World) (base : Nat) (args : Array Value) (ds gs : List (DataW H)) (before : List MemPlace)
    (hval0 : ∀ (j : Nat) t v, Tryz.f3.params[j]? = some t → args[j]? = some v → Value.okWide Tryz.prog W .any base t v)
    (hW : DataW.Whole enc Tryz.prog Tryz.f3.params.toList Rows.draftDueSpec.vars false W args.toList ds gs before) (hL : laidMetH Tryz.prog Rows.draftDueRow.laid W) :
    Calls Tryz.prog 3 args W fun e W' => ∃ v, e = .returned v ∧ Rows.draftDueSpec.post enc Tryz.prog Tryz.f3 false true false false W args v W' := by
  have hval : ∀ (j : Nat) t v, Tryz.f3.params[j]? = some t → args[j]? = some v → Value.okWide Tryz.prog W .any base t v := hval0
  have hW' := hW
  obtain ⟨p, q, hA0, hV, rfl, _, _⟩ := hW
  have hA : DataW.TrodAll enc Tryz.prog W 0 (fun _ => true) true Tryz.f3.params.toList args.toList ds p := hA0
  rw [Tryz.params3] at hA hval
  obtain ⟨v0, vs0, d0, ds0, p0, q0, hargs, rfl, rfl, h0, r0⟩ := trodAll_cons hA
  obtain ⟨v1, vs1, d1, ds1, p1, q1, rfl, rfl, rfl, h1, r1⟩ := trodAll_cons r0
  obtain ⟨rfl, rfl, rfl⟩ := trodAll_nil r1
  obtain rfl : args = #[v0, v1] := by cases args; simp_all
  obtain ⟨rfl, rfl⟩ := trodVars_none hV
  simp only [List.append_nil] at hW'
  have hlt : ∀ x ∈ p0 ++ p1, x.block < W.heap.size := fun x hx => by simpa using hW'.lt x (by simpa using hx)
  obtain ⟨A1, A2, l1, l2, c1, c2, rfl, k1, k2, hC1, hC2⟩ := Ext.open_cal (hval 0 _ v0 rfl rfl) h0
  obtain ⟨dr, rfl⟩ := Ext.open_draft (hval 1 _ v1 rfl rfl) h1
  refine (walk A1 A2 c1 c2 l1 l2 dr W hC1 hC2 k1 k2 (Base.tb_of_laid hL)).mono fun e W' ⟨he, bel⟩ => ?_
  subst he
  have t0 := Below.trod Base.laidOut (by kernel_rfl) (of_decide_eq_true (by kernel_rfl)) h0 bel (fun x hx => hlt x (by simp [hx]))
  have t1 := Below.trod Base.laidOut (by kernel_rfl) (of_decide_eq_true (by kernel_rfl)) h1 bel (fun x hx => hlt x (by simp [hx]))
  exact ⟨_, rfl, _, _, _, [], _, [], hW', trodAll_mk1 (shut_bool Tryz.underlying4 _), trodAll_cons_mk t0 (trodAll_cons_mk t1 trodAll_mk0), rfl, bel.frame _, fun h => by cases h⟩
theorem laid_met (os : Os) : laidMet Tryz.prog Rows.draftDueRow.laid ((Base.laidWorld os).forCall (fun _ _ => 0) ⟨#[], #[.agg #[.slice none 0 0, .slice none 0 0], .agg #[.string ByteArray.empty, .string ByteArray.empty, .string ByteArray.empty, .string ByteArray.empty, .string ByteArray.empty, .int .i64 0, .int .i64 0, .int .i64 0, .int .i64 0]], []⟩).memory :=
  laidMet_of_run' 8 (by kernel_rfl) (by kernel_rfl)
theorem reads (os : Os) {H : Type} (enc : TypeId × Value → H) : ∃ places, DataW.whole enc Tryz.prog ((Base.laidWorld os).forCall (fun _ _ => 0) ⟨#[], #[.agg #[.slice none 0 0, .slice none 0 0], .agg #[.string ByteArray.empty, .string ByteArray.empty, .string ByteArray.empty, .string ByteArray.empty, .string ByteArray.empty, .int .i64 0, .int .i64 0, .int .i64 0, .int .i64 0]], []⟩).memory Tryz.f3.params.toList Rows.draftDueSpec.vars false (#[.agg #[.slice none 0 0, .slice none 0 0], .agg #[.string ByteArray.empty, .string ByteArray.empty, .string ByteArray.empty, .string ByteArray.empty, .string ByteArray.empty, .int .i64 0, .int .i64 0, .int .i64 0, .int .i64 0]] : Array Value).toList 8 = some ([.agg [.nil, .nil], .agg [.lit (.string []), .lit (.string []), .lit (.string []), .lit (.string []), .agg [.lit (.string []), .lit (.int .i64 0)], .lit (.int .i64 0), .lit (.int .i64 0), .lit (.int .i64 0)]], [], places) :=
  ⟨[], by kernel_rfl⟩
set_option maxRecDepth 100000 in
theorem lifted (os : Os) (started : os.Started) (H : Type) (enc : TypeId × Value → H) (F : Stop.Interp) :
    ReturnsInHanded {} Tryz.checked os 3 .any ((OpenSpec.ofChange Rows.draftDueSpec).preRow enc Tryz.prog Tryz.f3 Rows.draftDueRow.domain false Rows.draftDueRow.laid) (((OpenSpec.ofChange Rows.draftDueSpec).at F).post enc Tryz.prog Tryz.f3 false true false false) := by
  obtain ⟨places, hx⟩ := reads os enc
  refine returnsInHanded_of_row (C := Tryz.checked) (s := OpenSpec.ofChange Rows.draftDueSpec) Base.own started (by kernel_rfl) Tryz.func3
    (witness_row_at (enc := enc) (C := Tryz.checked) false (Base.laidWorld os) #[.agg #[.slice none 0 0, .slice none 0 0], .agg #[.string ByteArray.empty, .string ByteArray.empty, .string ByteArray.empty, .string ByteArray.empty, .string ByteArray.empty, .int .i64 0, .int .i64 0, .int .i64 0, .int .i64 0]] rfl (by kernel_rfl) (by kernel_rfl) (by kernel_rfl)
      (OpenSpec.preRow_of_cond 8 hx (by kernel_rfl) (fun k hk => by cases hk) (by kernel_rfl) (laid_met os))) ?_
  intro W base args ds gs before hval hW _ _ _ hL _ _
  exact contract H enc W base args ds gs before hval hW hL
theorem said : Rows.DraftDueSaid :=
  OpenClaim.holds_of_cond 3 Tryz.f3 rfl rfl rfl rfl rfl rfl rfl ⟨rfl, rfl, rfl, rfl, rfl⟩ rfl rfl rfl rfl rfl (by kernel_rfl) Tryz.func3 (by kernel_rfl)
    (of_decide_eq_true (by kernel_rfl)) (by unfold Func.isWrapper; first | (rw [if_pos (by decide +kernel)]; kernel_rfl) | (rw [if_neg (by decide +kernel)]; exact ⟨rfl, rfl⟩))
    (fun os started H enc _ F => by rw [OpenClaim.pre_eq_preRow]; exact lifted os started H enc F)
set_option maxRecDepth 100000 in
theorem plain (f : FuncId) (fn : Func) (hf : Tryz.pinned.checked.prog.funcNamed "supercargo/supercargolaw38.DraftDue" = some f) (hfn : Tryz.pinned.checked.prog.funcs[f]? = some fn) :
    true = Tryz.pinned.checked.prog.looks [] ∧ ∀ (j : Nat) t, fn.params[j]? = some t → Tryz.pinned.checked.prog.wantsStandIn t = false := by
  obtain rfl : f = 3 := Option.some.inj ((show Tryz.prog.funcNamed "supercargo/supercargolaw38.DraftDue" = some 3 by kernel_rfl).symm.trans hf) |>.symm
  obtain rfl : fn = Tryz.f3 := (Option.some.inj (Tryz.func3.symm.trans hfn)).symm
  refine ⟨by kernel_rfl, fun j t ht => ?_⟩
  rw [Tryz.params3] at ht
  have hm : t ∈ (#[24, 28] : Array TypeId) := Array.mem_of_getElem? ht
  simp only [List.mem_toArray, List.mem_cons, List.not_mem_nil, or_false] at hm
  rcases hm with rfl | rfl
  all_goals first | exact (show Tryz.prog.wantsStandIn 24 = false by kernel_rfl) | exact (show Tryz.prog.wantsStandIn 28 = false by kernel_rfl)
theorem card : Rows.DraftDueCardSaid :=
  Claim7.holds_tied_plain_at .later [] _ _ _ _ said (fun _ h => by cases h) (by kernel_rfl) (fun _ h => by cases h) draftDue_row_tie rfl ⟨rfl, rfl⟩ (by kernel_rfl) rfl plain (by kernel_rfl)
end Go.Proofs.YtcmjgkmnbenniaaGreatDoor.draftDue
namespace Go.Proofs.YtcmjgkmnbenniaaGreatDoor
/-- The card, under a short name, for the claim. -/
theorem draftDue_holds : Rows.DraftDueCardSaid := draftDue.card
end Go.Proofs.YtcmjgkmnbenniaaGreatDoor
