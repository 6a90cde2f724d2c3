/- PackRights: the tables; the row; the card. For every input the law returns true and leaves its arguments as they were, in every world that holds the listed tables. No other condition. -/
import Derived.Test.YtfflbeenkfaemaaGreatDoorFPackRights16
namespace Go.Proofs.YtfflbeenkfaemaaGreatDoor.Base
open Go.ChangeShapes Go.WideShapes Go.ChangeAt Go.RowKit
theorem metH (W : World) : laidMetH Tryz.prog Rows.packRightsRow.laid W = laidMet Tryz.prog Rows.packRightsRow.laid W := by kernel_rfl
theorem tabs_of_laid {W : World} (h0 : laidMetH Tryz.prog Rows.packRightsRow.laid W) : Ext.TB W ∧ Ext.ApartAt W :=
 have h : laidMet Tryz.prog [("math/bits.deBruijn32tab", Rows.laid_math_bits_deBruijn32tab), ("math/bits.deBruijn64tab", Rows.laid_math_bits_deBruijn64tab), ("internal/strconv.uint64pow10", Rows.laid_internal_strconv_uint64pow10), ("supercargo/goods.apart", Rows.laid_supercargo_goods_apart)] W := (metH W) ▸ h0
 ⟨Lib.tabBelow_of_tabIs (Lib.tabIs_of_head (rest := [("supercargo/goods.apart", Rows.laid_supercargo_goods_apart)]) gPow gPowType Tryz.underlying228 Tryz.underlying114 cellsU64 cellsPow (laidMet.tail (laidMet.tail h))), ap_of_head (laidMet.tail (laidMet.tail (laidMet.tail h)))⟩
/-- A world for the witness: the settled one, each listed table holding what its initialiser lays. -/
noncomputable def laidWorld (os : Os) : World := { World.holding Tryz.prog os ⟨#[.cells #[.int .i64 2, .int .i64 3, .int .i64 4, .int .i64 5, .int .i64 6, .int .i64 7, .int .i64 8, .int .i64 9] 3 (0, 0), .cells #[.int .i64 3, .int .i64 5] 3 (0, 0), .cells #[.int .i64 5, .int .i64 8] 3 (0, 0), .cells #[.int .i64 5, .int .i64 8] 3 (0, 0), .cells #[.int .i64 6, .int .i64 8] 3 (0, 0), .cells #[.int .i64 9] 3 (0, 0)], #[], []⟩ with heap := (((((((((World.holding Tryz.prog os ⟨#[.cells #[.int .i64 2, .int .i64 3, .int .i64 4, .int .i64 5, .int .i64 6, .int .i64 7, .int .i64 8, .int .i64 9] 3 (0, 0), .cells #[.int .i64 3, .int .i64 5] 3 (0, 0), .cells #[.int .i64 5, .int .i64 8] 3 (0, 0), .cells #[.int .i64 5, .int .i64 8] 3 (0, 0), .cells #[.int .i64 6, .int .i64 8] 3 (0, 0), .cells #[.int .i64 9] 3 (0, 0)], #[], []⟩).heap).modify 5 (fun | .cells _ t fr => .cells #[.int .u8 0, .int .u8 1, .int .u8 28, .int .u8 2, .int .u8 29, .int .u8 14, .int .u8 24, .int .u8 3, .int .u8 30, .int .u8 22, .int .u8 20, .int .u8 15, .int .u8 25, .int .u8 17, .int .u8 4, .int .u8 8, .int .u8 31, .int .u8 27, .int .u8 13, .int .u8 23, .int .u8 21, .int .u8 19, .int .u8 16, .int .u8 7, .int .u8 26, .int .u8 12, .int .u8 18, .int .u8 6, .int .u8 11, .int .u8 5, .int .u8 10, .int .u8 9] t fr | o => o))).modify 6 (fun | .cells _ t fr => .cells #[.int .u8 0, .int .u8 1, .int .u8 56, .int .u8 2, .int .u8 57, .int .u8 49, .int .u8 28, .int .u8 3, .int .u8 61, .int .u8 58, .int .u8 42, .int .u8 50, .int .u8 38, .int .u8 29, .int .u8 17, .int .u8 4, .int .u8 62, .int .u8 47, .int .u8 59, .int .u8 36, .int .u8 45, .int .u8 43, .int .u8 51, .int .u8 22, .int .u8 53, .int .u8 39, .int .u8 33, .int .u8 30, .int .u8 24, .int .u8 18, .int .u8 12, .int .u8 5, .int .u8 63, .int .u8 55, .int .u8 48, .int .u8 27, .int .u8 60, .int .u8 41, .int .u8 37, .int .u8 16, .int .u8 46, .int .u8 35, .int .u8 44, .int .u8 21, .int .u8 52, .int .u8 32, .int .u8 23, .int .u8 11, .int .u8 54, .int .u8 26, .int .u8 40, .int .u8 15, .int .u8 34, .int .u8 20, .int .u8 31, .int .u8 10, .int .u8 25, .int .u8 14, .int .u8 19, .int .u8 9, .int .u8 13, .int .u8 8, .int .u8 7, .int .u8 6] t fr | o => o))).modify 3 (fun | .cells _ t fr => .cells #[.int .u64 1, .int .u64 10, .int .u64 100, .int .u64 1000, .int .u64 10000, .int .u64 100000, .int .u64 1000000, .int .u64 10000000, .int .u64 100000000, .int .u64 1000000000, .int .u64 10000000000, .int .u64 100000000000, .int .u64 1000000000000, .int .u64 10000000000000, .int .u64 100000000000000, .int .u64 1000000000000000, .int .u64 10000000000000000, .int .u64 100000000000000000, .int .u64 1000000000000000000, .int .u64 10000000000000000000] t fr | o => o))).modify 0 (fun | .cells _ t fr => .cells #[.slice none 0 0, .slice (some ⟨12, 0, none⟩) 8 8, .slice (some ⟨13, 0, none⟩) 2 2, .slice (some ⟨14, 0, none⟩) 2 2, .slice (some ⟨15, 0, none⟩) 2 2, .slice (some ⟨16, 0, none⟩) 2 2, .slice none 0 0, .slice (some ⟨17, 0, none⟩) 1 1, .slice none 0 0, .slice none 0 0] t fr | o => o)) }
end Go.Proofs.YtfflbeenkfaemaaGreatDoor.Base
namespace Go.Proofs.YtfflbeenkfaemaaGreatDoor.packRights
open Go.ChangeShapes Go.WideShapes Go.ChangeAt Go.RowKit Go.Proofs.YtfflbeenkfaemaaGreatDoorW.PrintWords
set_option maxRecDepth 100000 in
theorem contract (H : Type) (enc : TypeId × Value → H) (W : World) (base : Nat) (args : Array Value) (ds gs : List (DataW H)) (before : List MemPlace)
  (hval0 : ∀ (j : Nat) t v, Tryz.f8.params[j]? = some t → args[j]? = some v → Value.okWide Tryz.prog W .any base t v)
  (hW : DataW.Whole enc Tryz.prog Tryz.f8.params.toList Rows.packRightsSpec.vars false W args.toList ds gs before) (hL : laidMetH Tryz.prog Rows.packRightsRow.laid W) :
  Calls Tryz.prog 8 args W fun e W' => ∃ v, e = .returned v ∧ Rows.packRightsSpec.post enc Tryz.prog Tryz.f8 false true false false W args v W' := by
 have hval : ∀ (j : Nat) t v, Tryz.f8.params[j]? = some t → args[j]? = some v → Value.okWide Tryz.prog W .any base t v := hval0
 have hW' := hW
 obtain ⟨p, q, hA0, hV, rfl, _, _⟩ := hW
 have hA : DataW.TrodAll enc Tryz.prog W 0 (fun _ => true) true Tryz.f8.params.toList args.toList ds p := hA0
 rw [Tryz.params8] at hA hval
 obtain ⟨v0, vs0, d0, ds0, p0, q0, hargs, rfl, rfl, h0, r0⟩ := trodAll_cons hA
 obtain ⟨v1, vs1, d1, ds1, p1, q1, rfl, rfl, rfl, h1, r1⟩ := trodAll_cons r0
 obtain ⟨v2, vs2, d2, ds2, p2, q2, rfl, rfl, rfl, h2, r2⟩ := trodAll_cons r1
 obtain ⟨rfl, rfl, rfl⟩ := trodAll_nil r2
 obtain rfl : args = #[v0, v1, v2] := by cases args; simp_all
 obtain ⟨rfl, rfl⟩ := trodVars_none hV
 simp only [List.append_nil] at hW'
 have hlt : ∀ x ∈ p0 ++ p1 ++ p2, x.block < W.heap.size := fun x hx => hW'.lt x (by simpa using hx)
 obtain ⟨A0, l0, c0, rfl, k0, m0, C0, Q0⟩ := Ext.goods_A (hval 0 _ v0 rfl rfl) h0
 obtain ⟨A1, l1, c1, rfl, k1, m1, C1, Q1⟩ := Ext.boxes_A (hval 1 _ v1 rfl rfl) h1
 obtain ⟨A2, l2, c2, rfl, k2, m2, C2, Q2⟩ := Ext.lots_A (hval 2 _ v2 rfl rfl) h2
 obtain ⟨HT, hap⟩ := Base.tabs_of_laid hL
 refine (Ext.PackRights_any A0 A1 A2 c0 c1 c2 l0 l1 l2 W ⟨C0, k0, fun x hx => (Q0 x hx).1⟩ ⟨C1, k1, m1, fun b hb => (Q1 b hb).1, fun b hb => (Q1 b hb).2.2⟩ ⟨C2, k2, Q2⟩ hap HT).mono fun e W' ⟨he, bel⟩ => ?_
 subst he
 have t0 := Below.trod Base.laidOut (by kernel_rfl) (of_decide_eq_true (by kernel_rfl)) h0 bel (fun x hx => hlt x (by simp [hx]))
 have t1 := Below.trod Base.laidOut (by kernel_rfl) (of_decide_eq_true (by kernel_rfl)) h1 bel (fun x hx => hlt x (by simp [hx]))
 have t2 := Below.trod Base.laidOut (by kernel_rfl) (of_decide_eq_true (by kernel_rfl)) h2 bel (fun x hx => hlt x (by simp [hx]))
 exact ⟨_, rfl, _, _, _, [], _, [], hW', trodAll_mk1 (shut_bool Tryz.underlying4 _), (trodAll_cons_mk t0 (trodAll_cons_mk t1 (trodAll_cons_mk t2 trodAll_mk0))), rfl, bel.frame _, fun h => by cases h⟩
theorem laid_met (os : Os) : laidMet Tryz.prog Rows.packRightsRow.laid ((Base.laidWorld os).forCall (fun _ _ => 0) ⟨#[], #[.slice none 0 0, .slice none 0 0, .slice none 0 0], []⟩).memory :=
 laidMet_of_run' 8 (by kernel_rfl) (by kernel_rfl)
theorem reads (os : Os) {H : Type} (enc : TypeId × Value → H) : ∃ places, DataW.whole enc Tryz.prog ((Base.laidWorld os).forCall (fun _ _ => 0) ⟨#[], #[.slice none 0 0, .slice none 0 0, .slice none 0 0], []⟩).memory Tryz.f8.params.toList Rows.packRightsSpec.vars false (#[.slice none 0 0, .slice none 0 0, .slice none 0 0] : Array Value).toList 8 = some ([.nil, .nil, .nil], [], places) :=
 ⟨[], by kernel_rfl⟩
set_option maxRecDepth 100000 in
theorem lifted (os : Os) (started : os.Started) (H : Type) (enc : TypeId × Value → H) (F : Stop.Interp) :
  ReturnsInHanded {} Tryz.checked os 8 .any ((OpenSpec.ofChange Rows.packRightsSpec).preRow enc Tryz.prog Tryz.f8 Rows.packRightsRow.domain false Rows.packRightsRow.laid) (((OpenSpec.ofChange Rows.packRightsSpec).at F).post enc Tryz.prog Tryz.f8 false true false false) := by
 obtain ⟨places, hx⟩ := reads os enc
 refine returnsInHanded_of_row (C := Tryz.checked) (s := OpenSpec.ofChange Rows.packRightsSpec) Base.own started (by kernel_rfl) Tryz.func8
  (witness_row_atRef (enc := enc) (C := Tryz.checked) false (Base.laidWorld os) #[.slice none 0 0, .slice none 0 0, .slice none 0 0] rfl (by kernel_rfl) (by kernel_rfl) (by kernel_rfl)
   (OpenSpec.preRow_of_cond 8 hx (by kernel_rfl) (fun k hk => by cases hk) (by kernel_rfl) (laid_met os))) ?_
 intro W base args ds gs before hval hW _ _ _ hL _ _
 exact contract H enc W base args ds gs before hval hW hL
theorem said : Rows.PackRightsSaid :=
 OpenClaim.holds_of_cond 8 Tryz.f8 rfl rfl rfl rfl rfl rfl rfl ⟨rfl, rfl, rfl, rfl, rfl⟩ rfl rfl rfl rfl rfl (by kernel_rfl) Tryz.func8 (by kernel_rfl)
  (of_decide_eq_true (by kernel_rfl)) (by unfold Func.isWrapper; first | (rw [if_pos (by decide +kernel)]; kernel_rfl) | (rw [if_neg (by decide +kernel)]; exact ⟨rfl, rfl⟩))
  (fun os started H enc _ F => by rw [OpenClaim.pre_eq_preRow]; exact lifted os started H enc F)
set_option maxRecDepth 100000 in
theorem plain (f : FuncId) (fn : Func) (hf : Tryz.pinned.checked.prog.funcNamed "supercargo/supercargolaw12.PackRights" = some f) (hfn : Tryz.pinned.checked.prog.funcs[f]? = some fn) :
  false = Tryz.pinned.checked.prog.looks [] ∧ ∀ (j : Nat) t, fn.params[j]? = some t → Tryz.pinned.checked.prog.wantsStandIn t = false := by
 obtain rfl : f = 8 := Option.some.inj ((show Tryz.prog.funcNamed "supercargo/supercargolaw12.PackRights" = some 8 by kernel_rfl).symm.trans hf) |>.symm
 obtain rfl : fn = Tryz.f8 := (Option.some.inj (Tryz.func8.symm.trans hfn)).symm
 refine ⟨by kernel_rfl, fun j t ht => ?_⟩
 rw [Tryz.params8] at ht
 have hm : t ∈ (#[25, 37, 35] : Array TypeId) := Array.mem_of_getElem? ht
 simp only [List.mem_toArray, List.mem_cons, List.not_mem_nil, or_false] at hm
 rcases hm with rfl | rfl | rfl
 all_goals first | exact (show Tryz.prog.wantsStandIn 37 = false by kernel_rfl) | exact (show Tryz.prog.wantsStandIn 25 = false by kernel_rfl) | exact (show Tryz.prog.wantsStandIn 35 = false by kernel_rfl)
theorem card : Rows.PackRightsCardSaid :=
 Claim7.holds_tied_plain_at .later [] _ _ _ _ said (fun _ h => by cases h) (by kernel_rfl) (fun _ h => by cases h) packRights_row_tie rfl ⟨rfl, rfl⟩ (by kernel_rfl) rfl plain (by kernel_rfl)
end Go.Proofs.YtfflbeenkfaemaaGreatDoor.packRights
namespace Go.Proofs.YtfflbeenkfaemaaGreatDoor
/-- The card, under a short name, for the claim. -/
theorem packRights_holds : Rows.PackRightsCardSaid := packRights.card
end Go.Proofs.YtfflbeenkfaemaaGreatDoor
