/- One of the texts of this claim: Xx0, PkW, Iter, Cnt, Join, Shelf, MarkW, MarkS, MarkM, MarkK, Ext, Tab, Gds. -/
import Derived.Test.YtfflbeenkfaemaaGreatDoorProg
import Derived.Below
import Derived.Deep.Draws
import Derived.Deep.AppendLies
import Derived.Maps.AppendAt
import Derived.OwnWalk
import Derived.Laws.BytesArg
import Derived.Laws.MakeOwn
import Derived.Laws.OwnMore
import Derived.Deep.OwnRows
import Derived.Tactics
import Derived.Lib.ConvBytes
import Derived.Laws.Slices
import Derived.WalkKit
import Derived.KernelRfl
import Derived.RowKit3
import Derived.Deep.LoopGhost
import Derived.Deep.QuietTactic
import Derived.BigQuiet
import Derived.WideLaws
import Derived.Deep.DeepCutAuto
import Derived.Deep.CutBlock
import Derived.Deep.RegionHeld3
import Derived.Laws.Rows
import Derived.Lib.AppendStr
import Derived.ArgAppend
import Derived.Laws.IdiomCopy
import Derived.OrdersHeld
import Derived.Laws.BitsLemmas
import Derived.RowKit
import Derived.Lib.SmallJoins
import Derived.Lib.Hide
import Derived.Shelf.Strings.Builder1
import Derived.Shelf.Strings.Builder2
import Derived.Shelf.Strings.BuilderF
import Derived.Shelf.Strconv.Itoa0
import Derived.Shelf.Strconv.Itoa1
import Derived.Shelf.LaysM
import Derived.Shelf.Strconv.Itoa2
import Derived.Shelf.Strconv.Itoa3
import Derived.Shelf.Strings.Prefix
import Derived.Shelf.Bits.Mul64
import Derived.Shelf.Strings.Repeat
import Derived.Shelf.Slices.Turned
import Derived.Shelf.Slices.In.SortNone
import Derived.Ground.SlgmProg
import Derived.Shelf.SortM.Plain
import Derived.Shelf.SlIter.Nil
import Derived.Shelf.SortM.SortNone
import Derived.Ground.GgzProg
import Derived.Maps.OwnSet
import Derived.Maps.OwnOps
import Derived.WalkSpells
import Derived.WalkLawsBesides
import Derived.Lib.AppendIntMem
import Derived.Maps.Views
import Derived.Test.YtfflbeenkfaemaaGreatDoorFPackRights2
-- Written by wip/xprint.py (this session) over the kit's print.py
namespace Go.Proofs.YtfflbeenkfaemaaGreatDoor.X
open Go.RowKit Go.Proofs.YtfflbeenkfaemaaGreatDoorW.PrintWords Go.Proofs.YtfflbeenkfaemaaGreatDoorW.PrintLast Go.Proofs.YtfflbeenkfaemaaGreatDoorW.PrintMore
attribute [local go_sem] max2_int min2_int max_two min_two max_three min_three max_four min_four   -- for this text's walks alone
set_option linter.unusedVariables false
set_option linter.unusedSimpArgs false
def errW : Option Int → Value
 | none => .nilIface
 | some c => .iface 0 (.int .i64 c)
theorem errW_none : errW none = .nilIface := rfl
theorem errW_some (c : Int) : errW (some c) = .iface 0 (.int .i64 c) := rfl
theorem info3 : (Tryz.prog.info? 3).map (fun i => (i.zero, i.size, i.bytes)) = some (some (.int .i64 0), 1, 8) := by kernel_rfl
theorem info5 : (Tryz.prog.info? 5).map (fun i => (i.zero, i.size, i.bytes)) = some (some (.int .u8 0), 1, 1) := by kernel_rfl
theorem info55 : (Tryz.prog.info? 55).map (fun i => (i.zero, i.size, i.bytes)) = some (some (.agg #[(.string ⟨#[]⟩), (.int .i64 0)]), 2, 24) := by kernel_rfl
theorem info95 : (Tryz.prog.info? 95).map (fun i => (i.zero, i.size, i.bytes)) = some (some (.slice none 0 0), 1, 24) := by kernel_rfl
-- the values' own types
/-! #### struct type 55 -/
structure S55 where
 f0 : ByteArray
 f1 : Int
def z55 : S55 := ⟨(⟨#[]⟩ : ByteArray), (0 : Int)⟩
def k55 : Kd S55 := Kd.iso (Kd.pair Kd.string (Kd.int .i64)) (fun x : S55 => (x.f0, x.f1))
theorem k55_open {w : World} {x : S55} {cs : List Value} (h : k55.K w x cs) : cs = [.string x.f0, .int .i64 x.f1] := by
 obtain ⟨_, _, rfl, rfl, rfl⟩ := h
 exact rfl
theorem k55_openM {w : World} {base : Nat} {ok : Nat → Prop} {x : S55} {cs : List Value} (h : k55.M w base ok x cs) : cs = [.string x.f0, .int .i64 x.f1] := by
 obtain ⟨_, _, rfl, rfl, rfl⟩ := h
 exact rfl
theorem k55_mk (w : World) (x : S55)  : k55.K w x [.string x.f0, .int .i64 x.f1] := ⟨[.string x.f0], [.int .i64 x.f1], rfl, rfl, rfl⟩
theorem k55_mkM (w : World) (base : Nat) (ok : Nat → Prop) (x : S55)  : k55.M w base ok x [.string x.f0, .int .i64 x.f1] := ⟨[.string x.f0], [.int .i64 x.f1], rfl, rfl, rfl⟩
theorem k55_mkF (W : World) (ok : Nat → Prop) (x : S55) : Kd.FK k55 W ok x [.string x.f0, .int .i64 x.f1] := fun W2 _ => k55_mk W2 x
def rd_T55 (xs : List S55) (i : Int) : S55 := xs.getD i.toNat z55
theorem at_T55 {w : World} {A : Option Addr} {n : Nat} {xs : List S55} (h : Kd.C k55 w A n xs) (i : Int) (h0 : 0 ≤ i) (h1 : i < n) : ∃ ad , A = some ad ∧ w.cell? (ad.add (i.toNat * 2)) = some (.string (rd_T55 xs i).f0) ∧ w.cell? ⟨(ad.add (i.toNat * 2)).block, (ad.add (i.toNat * 2)).off + 1, none⟩ = some (.int .i64 (rd_T55 xs i).f1) := by
 obtain ⟨ad, c, e, _, hK, hc0⟩ := Kd.C_get h z55 i h0 h1
 have hc : ∀ j u, c[j]? = some u → w.cell? (ad.add (i.toNat * 2 + j)) = some u := hc0
 obtain rfl := k55_open hK
 exact ⟨ad, e, hc 0 _ rfl, by rw [← add_field _ _ 1 (by omega)]; exact hc 1 _ rfl⟩
def rd_L3 (xs : List (List S55)) (i : Int) : (List S55) := xs.getD i.toNat ([] : List S55)
theorem at_L3 {w : World} {A : Option Addr} {n : Nat} {xs : List (List S55)} (h : Kd.C (Kd.slice 55 k55) w A n xs) (i : Int) (h0 : 0 ≤ i) (h1 : i < n) : ∃ ad A0 c0, A = some ad ∧ w.cell? (ad.add i.toNat) = some (.slice A0 (rd_L3 xs i).length c0) ∧ (rd_L3 xs i).length ≤ c0 ∧ k55.C w A0 (rd_L3 xs i).length (rd_L3 xs i) := by
 obtain ⟨ad, c, e, _, hK, hc0⟩ := Kd.C_get h ([] : List S55) i h0 h1
 have hc : ∀ j u, c[j]? = some u → w.cell? (ad.add (i.toNat * 1 + j)) = some u := hc0
 obtain ⟨A0, c0, rfl, l0, g0⟩ := hK
 exact ⟨ad, A0, c0, e, by have hq := hc 0 _ rfl; rwa [Nat.mul_one, Nat.add_zero] at hq, l0, g0⟩
/-! #### struct type 44 -/
structure S44 where
 f0 : ByteArray
 f1 : Int
 f2 : (List S55)
def z44 : S44 := ⟨(⟨#[]⟩ : ByteArray), (0 : Int), ([] : List S55)⟩
def k44 : Kd S44 := Kd.iso (Kd.pair Kd.string (Kd.pair (Kd.int .i64) (Kd.slice 55 k55))) (fun x : S44 => (x.f0, x.f1, x.f2))
theorem k44_open {w : World} {x : S44} {cs : List Value} (h : k44.K w x cs) : ∃ A2 c2, cs = [.string x.f0, .int .i64 x.f1, .slice A2 x.f2.length c2] ∧ x.f2.length ≤ c2 ∧ k55.C w A2 x.f2.length x.f2 := by
 obtain ⟨_, _, rfl, rfl, ⟨_, _, rfl, rfl, ⟨A2, c2, rfl, l2, g2⟩⟩⟩ := h
 exact ⟨A2, c2, rfl, l2, g2⟩
theorem k44_openM {w : World} {base : Nat} {ok : Nat → Prop} {x : S44} {cs : List Value} (h : k44.M w base ok x cs) : ∃ v2, cs = [.string x.f0, .int .i64 x.f1, v2] ∧ k55.R 55 w base ok v2 x.f2 := by
 obtain ⟨_, _, rfl, rfl, ⟨_, _, rfl, rfl, ⟨v2, rfl, g2⟩⟩⟩ := h
 exact ⟨v2, rfl, g2⟩
theorem k44_mk (w : World) (x : S44) {A2 : Option Addr} {c2 : Nat} (l2 : x.f2.length ≤ c2) (g2 : k55.C w A2 x.f2.length x.f2) : k44.K w x [.string x.f0, .int .i64 x.f1, .slice A2 x.f2.length c2] := ⟨[.string x.f0], [.int .i64 x.f1, .slice A2 x.f2.length c2], rfl, rfl, ⟨[.int .i64 x.f1], [.slice A2 x.f2.length c2], rfl, rfl, ⟨A2, c2, rfl, l2, g2⟩⟩⟩
theorem k44_mkM (w : World) (base : Nat) (ok : Nat → Prop) (x : S44) {v2 : Value} (g2 : k55.R 55 w base ok v2 x.f2) : k44.M w base ok x [.string x.f0, .int .i64 x.f1, v2] := ⟨[.string x.f0], [.int .i64 x.f1, v2], rfl, rfl, ⟨[.int .i64 x.f1], [v2], rfl, rfl, ⟨v2, rfl, g2⟩⟩⟩
theorem k44_openF {W : World} {ok : Nat → Prop} {x : S44} {cs : List Value} (h : Kd.FK k44 W ok x cs) : ∃ A2 c2, cs = [.string x.f0, .int .i64 x.f1, .slice A2 x.f2.length c2] ∧ x.f2.length ≤ c2 ∧ Kd.F k55 W ok A2 x.f2.length x.f2 := by
 obtain ⟨A2, c2, rfl, l2, _⟩ := k44_open (Kd.FK_now h)
 exact ⟨A2, c2, rfl, l2, (fun W' hW => by obtain ⟨A2_, c2_, he, l2_, g2_⟩ := k44_open (h W' hW); injection (Option.some.inj (show some (Value.slice A2 x.f2.length c2) = some (Value.slice A2_ x.f2.length c2_) from congrArg (fun l => l[2]?) he)) with ha_ _ _; rw [ha_]; exact g2_)⟩
theorem k44_mkF (W : World) (ok : Nat → Prop) (x : S44) {A2 : Option Addr} {c2 : Nat} (l2 : x.f2.length ≤ c2) (g2 : Kd.F k55 W ok A2 x.f2.length x.f2) : Kd.FK k44 W ok x [.string x.f0, .int .i64 x.f1, .slice A2 x.f2.length c2] := fun W2 hW => k44_mk W2 x l2 (g2 W2 hW)
def rd_T44 (xs : List S44) (i : Int) : S44 := xs.getD i.toNat z44
theorem at_T44 {w : World} {A : Option Addr} {n : Nat} {xs : List S44} (h : Kd.C k44 w A n xs) (i : Int) (h0 : 0 ≤ i) (h1 : i < n) : ∃ ad A2 c2, A = some ad ∧ w.cell? (ad.add (i.toNat * 3)) = some (.string (rd_T44 xs i).f0) ∧ w.cell? ⟨(ad.add (i.toNat * 3)).block, (ad.add (i.toNat * 3)).off + 1, none⟩ = some (.int .i64 (rd_T44 xs i).f1) ∧ w.cell? ⟨(ad.add (i.toNat * 3)).block, (ad.add (i.toNat * 3)).off + 2, none⟩ = some (.slice A2 (rd_T44 xs i).f2.length c2) ∧ (rd_T44 xs i).f2.length ≤ c2 ∧ k55.C w A2 (rd_T44 xs i).f2.length (rd_T44 xs i).f2 := by
 obtain ⟨ad, c, e, _, hK, hc0⟩ := Kd.C_get h z44 i h0 h1
 have hc : ∀ j u, c[j]? = some u → w.cell? (ad.add (i.toNat * 3 + j)) = some u := hc0
 obtain ⟨A2, c2, rfl, l2, g2⟩ := k44_open hK
 exact ⟨ad, A2, c2, e, hc 0 _ rfl, by rw [← add_field _ _ 1 (by omega)]; exact hc 1 _ rfl, by rw [← add_field _ _ 2 (by omega)]; exact hc 2 _ rfl, l2, g2⟩
/-! #### struct type 30 -/
structure S30 where
 f0 : ByteArray
 f1 : Int
 f2 : Int
 f3 : Int
def z30 : S30 := ⟨(⟨#[]⟩ : ByteArray), (0 : Int), (0 : Int), (0 : Int)⟩
def k30 : Kd S30 := Kd.iso (Kd.pair Kd.string (Kd.pair (Kd.int .i64) (Kd.pair (Kd.int .i64) (Kd.int .i64)))) (fun x : S30 => (x.f0, x.f1, x.f2, x.f3))
theorem k30_open {w : World} {x : S30} {cs : List Value} (h : k30.K w x cs) : cs = [.string x.f0, .int .i64 x.f1, .int .i64 x.f2, .int .i64 x.f3] := by
 obtain ⟨_, _, rfl, rfl, ⟨_, _, rfl, rfl, ⟨_, _, rfl, rfl, rfl⟩⟩⟩ := h
 exact rfl
theorem k30_openM {w : World} {base : Nat} {ok : Nat → Prop} {x : S30} {cs : List Value} (h : k30.M w base ok x cs) : cs = [.string x.f0, .int .i64 x.f1, .int .i64 x.f2, .int .i64 x.f3] := by
 obtain ⟨_, _, rfl, rfl, ⟨_, _, rfl, rfl, ⟨_, _, rfl, rfl, rfl⟩⟩⟩ := h
 exact rfl
theorem k30_mk (w : World) (x : S30)  : k30.K w x [.string x.f0, .int .i64 x.f1, .int .i64 x.f2, .int .i64 x.f3] := ⟨[.string x.f0], [.int .i64 x.f1, .int .i64 x.f2, .int .i64 x.f3], rfl, rfl, ⟨[.int .i64 x.f1], [.int .i64 x.f2, .int .i64 x.f3], rfl, rfl, ⟨[.int .i64 x.f2], [.int .i64 x.f3], rfl, rfl, rfl⟩⟩⟩
theorem k30_mkM (w : World) (base : Nat) (ok : Nat → Prop) (x : S30)  : k30.M w base ok x [.string x.f0, .int .i64 x.f1, .int .i64 x.f2, .int .i64 x.f3] := ⟨[.string x.f0], [.int .i64 x.f1, .int .i64 x.f2, .int .i64 x.f3], rfl, rfl, ⟨[.int .i64 x.f1], [.int .i64 x.f2, .int .i64 x.f3], rfl, rfl, ⟨[.int .i64 x.f2], [.int .i64 x.f3], rfl, rfl, rfl⟩⟩⟩
theorem k30_mkF (W : World) (ok : Nat → Prop) (x : S30) : Kd.FK k30 W ok x [.string x.f0, .int .i64 x.f1, .int .i64 x.f2, .int .i64 x.f3] := fun W2 _ => k30_mk W2 x
def rd_T30 (xs : List S30) (i : Int) : S30 := xs.getD i.toNat z30
theorem at_T30 {w : World} {A : Option Addr} {n : Nat} {xs : List S30} (h : Kd.C k30 w A n xs) (i : Int) (h0 : 0 ≤ i) (h1 : i < n) : ∃ ad , A = some ad ∧ w.cell? (ad.add (i.toNat * 4)) = some (.string (rd_T30 xs i).f0) ∧ w.cell? ⟨(ad.add (i.toNat * 4)).block, (ad.add (i.toNat * 4)).off + 1, none⟩ = some (.int .i64 (rd_T30 xs i).f1) ∧ w.cell? ⟨(ad.add (i.toNat * 4)).block, (ad.add (i.toNat * 4)).off + 2, none⟩ = some (.int .i64 (rd_T30 xs i).f2) ∧ w.cell? ⟨(ad.add (i.toNat * 4)).block, (ad.add (i.toNat * 4)).off + 3, none⟩ = some (.int .i64 (rd_T30 xs i).f3) := by
 obtain ⟨ad, c, e, _, hK, hc0⟩ := Kd.C_get h z30 i h0 h1
 have hc : ∀ j u, c[j]? = some u → w.cell? (ad.add (i.toNat * 4 + j)) = some u := hc0
 obtain rfl := k30_open hK
 exact ⟨ad, e, hc 0 _ rfl, by rw [← add_field _ _ 1 (by omega)]; exact hc 1 _ rfl, by rw [← add_field _ _ 2 (by omega)]; exact hc 2 _ rfl, by rw [← add_field _ _ 3 (by omega)]; exact hc 3 _ rfl⟩
def rd_L7 (xs : List (List Int)) (i : Int) : (List Int) := xs.getD i.toNat ([] : List Int)
theorem at_L7 {w : World} {A : Option Addr} {n : Nat} {xs : List (List Int)} (h : Kd.C (Kd.slice 3 (Kd.int .i64)) w A n xs) (i : Int) (h0 : 0 ≤ i) (h1 : i < n) : ∃ ad A0 c0, A = some ad ∧ w.cell? (ad.add i.toNat) = some (.slice A0 (rd_L7 xs i).length c0) ∧ (rd_L7 xs i).length ≤ c0 ∧ (Kd.int .i64).C w A0 (rd_L7 xs i).length (rd_L7 xs i) := by
 obtain ⟨ad, c, e, _, hK, hc0⟩ := Kd.C_get h ([] : List Int) i h0 h1
 have hc : ∀ j u, c[j]? = some u → w.cell? (ad.add (i.toNat * 1 + j)) = some u := hc0
 obtain ⟨A0, c0, rfl, l0, g0⟩ := hK
 exact ⟨ad, A0, c0, e, by have hq := hc 0 _ rfl; rwa [Nat.mul_one, Nat.add_zero] at hq, l0, g0⟩
/-! #### struct type 79 -/
structure S79 where
 f0 : ByteArray
 f1 : Int
 f2 : Int
def z79 : S79 := ⟨(⟨#[]⟩ : ByteArray), (0 : Int), (0 : Int)⟩
def k79 : Kd S79 := Kd.iso (Kd.pair Kd.string (Kd.pair (Kd.int .i64) (Kd.int .i64))) (fun x : S79 => (x.f0, x.f1, x.f2))
theorem k79_open {w : World} {x : S79} {cs : List Value} (h : k79.K w x cs) : cs = [.string x.f0, .int .i64 x.f1, .int .i64 x.f2] := by
 obtain ⟨_, _, rfl, rfl, ⟨_, _, rfl, rfl, rfl⟩⟩ := h
 exact rfl
theorem k79_openM {w : World} {base : Nat} {ok : Nat → Prop} {x : S79} {cs : List Value} (h : k79.M w base ok x cs) : cs = [.string x.f0, .int .i64 x.f1, .int .i64 x.f2] := by
 obtain ⟨_, _, rfl, rfl, ⟨_, _, rfl, rfl, rfl⟩⟩ := h
 exact rfl
theorem k79_mk (w : World) (x : S79)  : k79.K w x [.string x.f0, .int .i64 x.f1, .int .i64 x.f2] := ⟨[.string x.f0], [.int .i64 x.f1, .int .i64 x.f2], rfl, rfl, ⟨[.int .i64 x.f1], [.int .i64 x.f2], rfl, rfl, rfl⟩⟩
theorem k79_mkM (w : World) (base : Nat) (ok : Nat → Prop) (x : S79)  : k79.M w base ok x [.string x.f0, .int .i64 x.f1, .int .i64 x.f2] := ⟨[.string x.f0], [.int .i64 x.f1, .int .i64 x.f2], rfl, rfl, ⟨[.int .i64 x.f1], [.int .i64 x.f2], rfl, rfl, rfl⟩⟩
theorem k79_mkF (W : World) (ok : Nat → Prop) (x : S79) : Kd.FK k79 W ok x [.string x.f0, .int .i64 x.f1, .int .i64 x.f2] := fun W2 _ => k79_mk W2 x
def rd_T79 (xs : List S79) (i : Int) : S79 := xs.getD i.toNat z79
theorem at_T79 {w : World} {A : Option Addr} {n : Nat} {xs : List S79} (h : Kd.C k79 w A n xs) (i : Int) (h0 : 0 ≤ i) (h1 : i < n) : ∃ ad , A = some ad ∧ w.cell? (ad.add (i.toNat * 3)) = some (.string (rd_T79 xs i).f0) ∧ w.cell? ⟨(ad.add (i.toNat * 3)).block, (ad.add (i.toNat * 3)).off + 1, none⟩ = some (.int .i64 (rd_T79 xs i).f1) ∧ w.cell? ⟨(ad.add (i.toNat * 3)).block, (ad.add (i.toNat * 3)).off + 2, none⟩ = some (.int .i64 (rd_T79 xs i).f2) := by
 obtain ⟨ad, c, e, _, hK, hc0⟩ := Kd.C_get h z79 i h0 h1
 have hc : ∀ j u, c[j]? = some u → w.cell? (ad.add (i.toNat * 3 + j)) = some u := hc0
 obtain rfl := k79_open hK
 exact ⟨ad, e, hc 0 _ rfl, by rw [← add_field _ _ 1 (by omega)]; exact hc 1 _ rfl, by rw [← add_field _ _ 2 (by omega)]; exact hc 2 _ rfl⟩
end Go.Proofs.YtfflbeenkfaemaaGreatDoor.X
namespace Go.Proofs.YtfflbeenkfaemaaGreatDoor.Ext
open Go.RowKit Go.Proofs.YtfflbeenkfaemaaGreatDoorW.PrintWords Go.Proofs.YtfflbeenkfaemaaGreatDoorW.PrintLast
theorem keepw {w W : World} {p : Addr} {v : Value} (hB : Below w.heap.size w W) (h : w.cell? p = some v) : W.cell? p = some v := (hB.cell (World.block_lt_of_cell? w _ h)).trans h
/-- A call of a function value in a region that draws. -/
theorem goesV_ {P : Program} {ops : Array Oper} {Q : Exit → Act → World → Prop} {oi : Oper} {N : Option Tmp} {a : Act} {w : World} {K : Act → World → Prop} {g : Nat} {lb : Array Value} {x : Operand} {xs : Array Operand} {ts : Array TypeId}
  (eg : ∀ args w, (callFunc g args).run P w = .ok (.enter g args) w) (args : Array Value) (hw : Region.wanted oi (yielded ops a.tmps) = true) (hN : oi.dst = N) (hop : oi.op = .call { callee := .value x, args := xs, argTypes := ts })
  (hx : a.eval x = .func (.func g) #[] lb) (hargs : xs.map a.eval = args)
  (h : Calls P g (args ++ lb) w fun e w' => ∃ v, e = .returned v ∧ K (a.put N v) w') : if Region.wanted oi (yielded ops a.tmps) = true then Oper.wp P oi a w K Q else K (a.put N undef) w := by
 refine call_ g (args ++ lb) hw hN ?_ h
 unfold execOp
 simp [hop, resolve, Deferred.ofValue, invoke, hx, hargs, eg]
end Go.Proofs.YtfflbeenkfaemaaGreatDoor.Ext
namespace Go.Proofs
open Go.Shelf
def Tryz.keys58_ren : Go.Shelf.Ren := ⟨fun | 7 => 58 | 10 => 96 | n => n, fun | 23 => 100 | 26 => 9 | 3 => 3 | 28 => 105 | 0 => 0 | 27 => 104 | 33 => 49 | 4 => 4 | n => n, fun | n => n⟩
theorem Tryz.keys58 : Go.Proofs.SlLaysZ.n7 Tryz.prog Tryz.keys58_ren := {
 mixed := by kernel_rfl
 f7 := ⟨Tryz.f58.name, by decide, Tryz.func58.trans (congrArg some (by kernel_rfl))⟩
 f10 := ⟨Tryz.f96.name, by decide, Tryz.func96.trans (congrArg some (by kernel_rfl))⟩
 t0 := Tryz.underlying0
 a0 := Tryz.isAgg0
 z0 := Tryz.sizeOf0
 v0 := Tryz.zeroValue0
 t4 := Tryz.underlying4
 a4 := Tryz.isAgg4
 z4 := Tryz.sizeOf4
 v4 := Tryz.zeroValue4
 t23 := Tryz.underlying100
 a23 := Tryz.isAgg100
 z23 := Tryz.sizeOf100
 v23 := Tryz.zeroValue100
 t26 := Tryz.underlying9
 a26 := Tryz.isAgg9
 z26 := Tryz.sizeOf9
 v26 := Tryz.zeroValue9
 t27 := Tryz.underlying104
 a27 := Tryz.isAgg104
 z27 := Tryz.sizeOf104
 v27 := Tryz.zeroValue104
 t28 := Tryz.underlying105
 a28 := Tryz.isAgg105
 z28 := Tryz.sizeOf105
 v28 := Tryz.zeroValue105
 t33 := Tryz.underlying49
 a33 := Tryz.isAgg49
 z33 := Tryz.sizeOf49
 v33 := Tryz.zeroValue49 }
def Tryz.sorted57_ren : Go.Shelf.Ren := ⟨fun | 6 => 57 | 8 => 94 | 9 => 95 | 11 => 125 | 13 => 110 | 12 => 126 | 23 => 140 | 24 => 131 | 14 => 153 | 15 => 154 | 16 => 155 | 17 => 156 | 18 => 157 | 19 => 158 | 20 => 159 | 21 => 160 | 22 => 161 | 25 => 183 | 26 => 164 | 27 => 165 | 28 => 184 | 29 => 185 | 30 => 148 | 31 => 197 | n => n, fun | 26 => 9 | 28 => 105 | 24 => 102 | 0 => 0 | 3 => 3 | 37 => 145 | 48 => 174 | 50 => 114 | 4 => 4 | 40 => 168 | 39 => 167 | 45 => 128 | 5 => 5 | 9 => 9 | 51 => 196 | 55 => 200 | 57 => 218 | 58 => 47 | 33 => 49 | n => n, fun | n => n⟩
theorem Tryz.sorted57 : Go.Proofs.SlLaysZ.n6 Tryz.prog Tryz.sorted57_ren := {
 mixed := by kernel_rfl
 f6 := ⟨Tryz.f57.name, by decide, Tryz.func57.trans (congrArg some (by kernel_rfl))⟩
 f8 := ⟨Tryz.f94.name, by decide, Tryz.func94.trans (congrArg some (by kernel_rfl))⟩
 f11 := ⟨Tryz.f125.name, by decide, Tryz.func125.trans (congrArg some (by kernel_rfl))⟩
 t0 := Tryz.underlying0
 a0 := Tryz.isAgg0
 z0 := Tryz.sizeOf0
 v0 := Tryz.zeroValue0
 t24 := Tryz.underlying102
 a24 := Tryz.isAgg102
 z24 := Tryz.sizeOf102
 v24 := Tryz.zeroValue102
 t26 := Tryz.underlying9
 a26 := Tryz.isAgg9
 z26 := Tryz.sizeOf9
 v26 := Tryz.zeroValue9
 t28 := Tryz.underlying105
 a28 := Tryz.isAgg105
 z28 := Tryz.sizeOf105
 v28 := Tryz.zeroValue105
 i26 := by kernel_rfl }
def Tryz.sort95_ren : Go.Shelf.Ren := ⟨fun | 6 => 95 | 8 => 110 | 9 => 126 | 19 => 140 | 20 => 131 | 21 => 153 | 22 => 154 | 23 => 155 | 24 => 156 | 25 => 157 | 26 => 158 | 27 => 159 | 28 => 160 | 29 => 161 | 36 => 183 | 31 => 164 | 32 => 165 | 37 => 184 | 38 => 185 | 39 => 148 | 41 => 197 | n => n, fun | 27 => 102 | 29 => 9 | 3 => 3 | 32 => 145 | 26 => 102 | 0 => 0 | 44 => 174 | 46 => 114 | 4 => 4 | 36 => 168 | 35 => 167 | 41 => 128 | 5 => 5 | 9 => 9 | 53 => 196 | 57 => 200 | 63 => 218 | 64 => 47 | n => n, fun | n => n⟩
theorem Tryz.sort95 : Go.Proofs.SlLaysM.n6 Tryz.prog Tryz.sort95_ren := {
 mixed := by kernel_rfl
 f6 := ⟨Tryz.f95.name, by decide, Tryz.func95.trans (congrArg some (by kernel_rfl))⟩
 f8 := Tryz.func110.trans (congrArg some (by kernel_rfl))
 f9 := ⟨Tryz.f126.name, by decide, Tryz.func126.trans (congrArg some (by kernel_rfl))⟩
 f19 := Tryz.func140.trans (congrArg some (by kernel_rfl))
 f20 := Tryz.func131.trans (congrArg some (by kernel_rfl))
 f21 := ⟨Tryz.f153.name, by decide, Tryz.func153.trans (congrArg some (by kernel_rfl))⟩
 f22 := ⟨Tryz.f154.name, by decide, Tryz.func154.trans (congrArg some (by kernel_rfl))⟩
 f23 := ⟨Tryz.f155.name, by decide, Tryz.func155.trans (congrArg some (by kernel_rfl))⟩
 f24 := ⟨Tryz.f156.name, by decide, Tryz.func156.trans (congrArg some (by kernel_rfl))⟩
 f25 := ⟨Tryz.f157.name, by decide, Tryz.func157.trans (congrArg some (by kernel_rfl))⟩
 f26 := ⟨Tryz.f158.name, by decide, Tryz.func158.trans (congrArg some (by kernel_rfl))⟩
 f27 := ⟨Tryz.f159.name, by decide, Tryz.func159.trans (congrArg some (by kernel_rfl))⟩
 f28 := ⟨Tryz.f160.name, by decide, Tryz.func160.trans (congrArg some (by kernel_rfl))⟩
 f29 := ⟨Tryz.f161.name, by decide, Tryz.func161.trans (congrArg some (by kernel_rfl))⟩
 f31 := Tryz.func164.trans (congrArg some (by kernel_rfl))
 f32 := Tryz.func165.trans (congrArg some (by kernel_rfl))
 f36 := ⟨Tryz.f183.name, by decide, Tryz.func183.trans (congrArg some (by kernel_rfl))⟩
 f37 := ⟨Tryz.f184.name, by decide, Tryz.func184.trans (congrArg some (by kernel_rfl))⟩
 f38 := ⟨Tryz.f185.name, by decide, Tryz.func185.trans (congrArg some (by kernel_rfl))⟩
 f39 := ⟨Tryz.f148.name, by decide, Tryz.func148.trans (congrArg some (by kernel_rfl))⟩
 f41 := ⟨Tryz.f197.name, by decide, Tryz.func197.trans (congrArg some (by kernel_rfl))⟩
 t0 := Tryz.underlying0
 a0 := Tryz.isAgg0
 z0 := Tryz.sizeOf0
 v0 := Tryz.zeroValue0
 t3 := Tryz.underlying3
 a3 := Tryz.isAgg3
 z3 := Tryz.sizeOf3
 v3 := Tryz.zeroValue3
 t4 := Tryz.underlying4
 a4 := Tryz.isAgg4
 z4 := Tryz.sizeOf4
 v4 := Tryz.zeroValue4
 t5 := Tryz.underlying5
 a5 := Tryz.isAgg5
 z5 := Tryz.sizeOf5
 v5 := Tryz.zeroValue5
 t9 := Tryz.underlying9
 a9 := Tryz.isAgg9
 z9 := Tryz.sizeOf9
 v9 := Tryz.zeroValue9
 t26 := Tryz.underlying102
 a26 := Tryz.isAgg102
 z26 := Tryz.sizeOf102
 v26 := Tryz.zeroValue102
 t27 := Tryz.underlying102
 a27 := Tryz.isAgg102
 z27 := Tryz.sizeOf102
 v27 := Tryz.zeroValue102
 t29 := Tryz.underlying9
 a29 := Tryz.isAgg9
 z29 := Tryz.sizeOf9
 v29 := Tryz.zeroValue9
 t32 := Tryz.underlying145
 a32 := Tryz.isAgg145
 z32 := Tryz.sizeOf145
 v32 := Tryz.zeroValue145
 t35 := Tryz.underlying167
 a35 := Tryz.isAgg167
 z35 := Tryz.sizeOf167
 v35 := Tryz.zeroValue167
 t36 := Tryz.underlying168
 a36 := Tryz.isAgg168
 z36 := Tryz.sizeOf168
 v36 := Tryz.zeroValue168
 t41 := Tryz.underlying128
 a41 := Tryz.isAgg128
 z41 := Tryz.sizeOf128
 v41 := Tryz.zeroValue128
 t44 := Tryz.underlying174
 a44 := Tryz.isAgg174
 z44 := Tryz.sizeOf174
 v44 := Tryz.zeroValue174
 t46 := Tryz.underlying114
 a46 := Tryz.isAgg114
 z46 := Tryz.sizeOf114
 v46 := Tryz.zeroValue114
 t53 := Tryz.underlying196
 a53 := Tryz.isAgg196
 z53 := Tryz.sizeOf196
 v53 := Tryz.zeroValue196
 t57 := Tryz.underlying200
 a57 := Tryz.isAgg200
 z57 := Tryz.sizeOf200
 v57 := Tryz.zeroValue200
 t63 := Tryz.underlying218
 a63 := Tryz.isAgg218
 z63 := Tryz.sizeOf218
 v63 := Tryz.zeroValue218
 t64 := Tryz.underlying47
 a64 := Tryz.isAgg47
 z64 := Tryz.sizeOf47
 v64 := Tryz.zeroValue47 }
open Go.RowKit Go.Maps Go.Sort Go.Shelf
theorem Tryz.sorts57 (m : Nat) : AnyZ.SortsIn Tryz.prog Tryz.sorted57_ren Fence.wide m :=
 ⟨fun blk off cap ss W hH hblk hsz => callsIn_wide.2 (AnyM.slices_Sort_string Tryz.sort95 blk off cap ss W hH hblk hsz),
  fun p cap W => callsIn_wide.2 (AnyM.slices_Sort_string_none Tryz.sort95 p cap W)⟩
theorem Tryz.maps_Keys_58 (mb : Option Nat) (W : World) : CallsIn Fence.wide 5 Tryz.prog 58 #[.map mb] W fun e w' => e = .returned (.func (.func 96) #[] #[.pointer (some ⟨W.heap.size, 0, none⟩)]) ∧ w' = W.alloc (.cells #[.map mb] 100) :=
 AnyZ.keys_in Tryz.keys58 Fence.wide 5 trivial rfl mb W
set_option maxHeartbeats 1000000 in
theorem Tryz.slices_Sorted_keys_57_58 {H : Type} (b nn : Nat) (D0 : DataW H) (R : Value → Option (DataW H × List MemPlace)) (w : World) (hown : w.ownsMap Tryz.prog 9 R b nn D0) (hmax : Maps.size D0 ≤ maxLen) (hbytes : Maps.size D0 * 16 ≤ 140737488355328) :
  CallsIn Fence.wide 5 Tryz.prog 57 #[.func (.func 96) #[] #[.pointer (some ⟨w.heap.size, 0, none⟩)]] (w.alloc (.cells #[.map (some b)] 100)) fun e w' => ∃ (v : Value) (ss : List (List UInt8)), e = .returned v ∧ ss.Perm (strKeys D0) ∧
   w'.ownsRow (w.alloc (.cells #[.map (some b)] 100)).heap.size 9 1 v ss.length ((ss.mergeSort (fun x y => decide (x ≤ y))).map encStr) ∧ (v = .slice none 0 0 ↔ ss = []) ∧ Below (w.alloc (.cells #[.map (some b)] 100)).heap.size (w.alloc (.cells #[.map (some b)] 100)) w' := by
 have hbl := hown.lt
 have hseq : SeqGives Fence.wide 2 Tryz.prog 96 #[.pointer (some ⟨w.heap.size, 0, none⟩)] encStr (fun ss => ss.Perm (strKeys D0)) (Maps.size D0) (w.alloc (.cells #[.map (some b)] 100)) :=
  AnyZ.keys_gives (ρ := Tryz.keys58_ren) { Tryz.keys58 with } Fence.wide _ trivial rfl (by omega) w.heap.size b nn D0 _ (by simp) (by simp) (by
   obtain ⟨es, clock, hb, Ft, hs, hD⟩ := hown
   exact ⟨es, clock, (Below.heap_alloc _ _ b hbl).trans hb, Ft, hs, hD⟩)
 exact AnyZ.sorted_in Tryz.sorted57 Fence.wide 5 trivial trivial trivial trivial rfl (by omega) (Tryz.sorts57 _) (enters_of Tryz.func95 (by kernel_rfl) rfl) 96 #[.pointer (some ⟨w.heap.size, 0, none⟩)] trivial (enters_of Tryz.func96 (by kernel_rfl) rfl) _ _ hmax hbytes _ hseq
set_option maxHeartbeats 1000000 in
theorem Tryz.slices_Sorted_keys_nil_57_58 (w : World) :
  CallsIn Fence.wide 5 Tryz.prog 57 #[.func (.func 96) #[] #[.pointer (some ⟨w.heap.size, 0, none⟩)]] (w.alloc (.cells #[.map none] 100)) fun e w' => ∃ (v : Value) (ss : List (List UInt8)), e = .returned v ∧ ss = [] ∧
   w'.ownsRow (w.alloc (.cells #[.map none] 100)).heap.size 9 1 v ss.length ((ss.mergeSort (fun x y => decide (x ≤ y))).map encStr) ∧ (v = .slice none 0 0 ↔ ss = []) ∧ Below (w.alloc (.cells #[.map none] 100)).heap.size (w.alloc (.cells #[.map none] 100)) w' := by
 have hseq : SeqGives Fence.wide 2 Tryz.prog 96 #[.pointer (some ⟨w.heap.size, 0, none⟩)] encStr (fun ss : List (List UInt8) => ss = []) 0 (w.alloc (.cells #[.map none] 100)) :=
  AnyZ.keys_gives_nil (ρ := Tryz.keys58_ren) { Tryz.keys58 with } Fence.wide _ trivial rfl w.heap.size _ (by simp) (by simp)
 exact AnyZ.sorted_in Tryz.sorted57 Fence.wide 5 trivial trivial trivial trivial rfl (by omega) (Tryz.sorts57 _) (enters_of Tryz.func95 (by kernel_rfl) rfl) 96 #[.pointer (some ⟨w.heap.size, 0, none⟩)] trivial (enters_of Tryz.func96 (by kernel_rfl) rfl) _ 0 (Nat.zero_le _) (by omega) _ hseq
end Go.Proofs
namespace Go.Proofs.YtfflbeenkfaemaaGreatDoor.Ext
open Go.RowKit Go.Maps Go.WideMaps Go.ChangeMaps Go.Proofs.YtfflbeenkfaemaaGreatDoorW.PrintWords Go.Proofs.YtfflbeenkfaemaaGreatDoorW.PrintLast
theorem lawS : Keyed Tryz.prog 9 := string_keyed Tryz.underlying9
def keyL (s : ByteArray) : Lit := .string s.data.toList
theorem keyOf_bytes (s : ByteArray) (h : s.size ≤ 9223372036854775807) : keyOf Tryz.prog 9 (.string s) = some (keyL s) := keyOf_string_mk Tryz.underlying9 h
theorem zeroI (w : World) : (zeroValue 3).run Tryz.prog w = .ok (.int .i64 0) w := by kernel_rfl
def litI (n : Int) : DataW Unit := .lit (.int .i64 n)
def numAt (D : DataW Unit) (k : Lit) : Int := match D.atKey k (litI 0) with | .lit (.int _ c) => c | _ => 0
def cntStep (D : DataW Unit) (x : X.S55) : DataW Unit := if x.f1 > 0 then D.put (keyL x.f0) (litI (wrap64 (numAt D (keyL x.f0) + x.f1))) else D
def cntD (l : List X.S55) : DataW Unit := l.foldl cntStep (.map [])
theorem cntD_next (l : List X.S55) (i : Nat) (h : i < l.length) : cntD (l.take (i + 1)) = cntStep (cntD (l.take i)) (X.rd_T55 l (i : Int)) := by
 have e : X.rd_T55 l (i : Int) = l[i] := by simp [X.rd_T55, List.getD, List.getElem?_eq_getElem h]
 rw [e]
 unfold cntD
 rw [List.take_add_one, List.getElem?_eq_getElem h, List.foldl_append]
 rfl
set_option maxHeartbeats 4000000 in
set_option maxRecDepth 100000 in
theorem counts_any (A : Option Addr) (c : Nat) (l : List X.S55) (w : World) (hr : Kd.C X.k55 w A l.length l) (hl : l.length ≤ 100000) (hs : ∀ x ∈ l, x.f0.size ≤ 9223372036854775807) :
  Calls Tryz.prog 56 #[.slice A l.length c] w fun e w' => e = .returned (.map (some w.heap.size)) ∧ w'.ownsMap Tryz.prog 9 (plainElem (H := Unit) Tryz.prog 3) w.heap.size l.length (cntD l) ∧ Below w.heap.size w w' := by
 have hmm := @run_makeMap Tryz.prog
 go_enter Tryz.func56, Tryz.ntmps56
 go_wp2_with fail
 go_loopw [9] (fun v9 wr => ∃ i : Nat, i ≤ l.length ∧ v9 = .int .i64 i ∧ wr.ownsMap Tryz.prog 9 (plainElem (H := Unit) Tryz.prog 3) w.heap.size i (cntD (l.take i)) ∧ Below w.heap.size w wr) (fun v9 _ => l.length - (intOf v9).toNat)
 case atStart => exact ⟨0, by omega, rfl, World.ownsMap_made _ _ _ _, (Below.refl _ _).alloc (Nat.le_refl _) _⟩
 case round =>
  obtain ⟨i, hi, rfl, hown, hB⟩ := hrel
  by_cases hlt : i < l.length
  ·obtain ⟨ad, eA, e0, e1⟩ := X.at_T55 hr (i : Int) (by omega) (by omega)
   subst eA
   have hnext := Lib.hid (cntD_next l i hlt)
   have hx : (X.rd_T55 l (i : Int)).f0.size ≤ 9223372036854775807 := hs _ (by unfold X.rd_T55; simp [List.getD, List.getElem?_eq_getElem hlt])
   generalize X.rd_T55 l (i : Int) = z at e0 e1 hnext hx
   obtain ⟨x, n⟩ := z
   simp only [Int.toNat_natCast] at e0 e1 hx
   have a0 := keepw hB e0
   have a1 := keepw hB e1
   clear e0 e1
   have hBB : Below w.heap.size w (wr.alloc (.cells #[.string x, .int .i64 n] 55)) := hB.alloc hB.size _
   have hown2 := hown.alloc (.cells #[.string x, .int .i64 n] 55)
   by_cases hn : n > 0
   ·have hst : cntD (l.take (i + 1)) = (cntD (l.take i)).put (keyL x) (litI (wrap64 (numAt (cntD (l.take i)) (keyL x) + n))) := by
     rw [hnext.out]; show (if n > 0 then _ else _) = _; rw [if_pos hn]
    have hk := keyOf_bytes x hx
    go_wp2_with (first
     | (at_lookup; refine wpList_lookup_own_int _ rfl _ _ 100 rfl 9 3 .i64 lawS Tryz.underlying100 Tryz.underlying3 (zeroI _) w.heap.size i _ rfl hown2 _ _ rfl hk ?_; intro q hat hwq)
     | (at_mapUpdate; refine wpList_mapUpdate_own _ rfl _ _ _ 100 rfl 9 3 lawS Tryz.underlying100 _ w.heap.size i _ rfl hown2 (by unfold maxLen; omega) _ _ _ rfl rfl hk _ [] (plainElem_int Tryz.underlying3 (wrap64_wf _)) ?_))
    intro w3 hown3 hgr3
    have hq : numAt (cntD (l.take i)) (keyL x) = q := by unfold numAt litI; rw [hat]
    have hB3 : Below w.heap.size w w3 := hBB.grown hgr3 (by simp; have := hB.size; omega) (fun j hj => by cases hj; exact Nat.le_refl _)
    go_wp2_with fail
    refine ⟨⟨i + 1, by omega, by simp, ?_, hB3⟩, by simp [intOf]; omega⟩
    rw [hst, hq]
    exact hown3
   ·go_wp2_with fail
    refine ⟨⟨i + 1, by omega, by simp, ?_, hBB⟩, by simp [intOf]; omega⟩
    have hst : cntD (l.take (i + 1)) = cntD (l.take i) := by
     rw [hnext.out]; show (if n > 0 then _ else _) = _; rw [if_neg hn]
    rw [hst]
    exact hown2.mono (by omega)
  ·have e : i = l.length := by omega
   subst e
   go_wp2_with fail
   go_ret
   rw [List.take_length] at hown
   exact ⟨rfl, hown, hB⟩
end Go.Proofs.YtfflbeenkfaemaaGreatDoor.Ext
namespace Go.Proofs.YtfflbeenkfaemaaGreatDoor.Ext
open Go.RowKit Go.Maps Go.WideMaps Go.ChangeMaps Go.Proofs.YtfflbeenkfaemaaGreatDoorW.PrintWords Go.Proofs.YtfflbeenkfaemaaGreatDoorW.PrintLast
def keysB (l : List X.S55) : List ByteArray := ((strKeys (cntD l)).mergeSort (fun x y => decide (x ≤ y))).map fun s => ⟨s.toArray⟩
def joinB (l : List X.S55) : List X.S55 := (keysB l).map fun s => ⟨s, numAt (cntD l) (keyL s)⟩
theorem own_below {w w' : World} {k : TypeId} {R : Value → Option (DataW Unit × List MemPlace)} {b n : Nat} {D : DataW Unit} (h : w.ownsMap Tryz.prog k R b n D) (hb : Below w.heap.size w w') : w'.ownsMap Tryz.prog k R b n D := by
 obtain ⟨es, clock, hm, F, hs, hD⟩ := h
 exact ⟨es, clock, blk_below hm hb, F, hs, hD⟩
theorem strKeys_size (D : DataW Unit) (h : ∃ es, D = .map es) : (strKeys D).length = Maps.size D := by
 obtain ⟨es, rfl⟩ := h
 simp [strKeys, Maps.size]
theorem keysB_enc (l : List X.S55) : ((strKeys (cntD l)).mergeSort (fun x y => decide (x ≤ y))).map Go.Proofs.encStr = (keysB l).map Value.string := by
 unfold keysB
 rw [List.map_map]
 rfl
theorem joinB_next (l : List X.S55) (j : Nat) (h : j < (keysB l).length) : (joinB l).take (j + 1) = (joinB l).take j ++ [⟨(keysB l)[j], numAt (cntD l) (keyL (keysB l)[j])⟩] := by
 unfold joinB
 rw [List.take_add_one, List.getElem?_map, List.getElem?_eq_getElem h]
 rfl
set_option maxHeartbeats 4000000 in
set_option maxRecDepth 100000 in
theorem Join_any (A : Option Addr) (c : Nat) (l : List X.S55) (w : World) (hr : Kd.C X.k55 w A l.length l) (hl : l.length ≤ 100000) (hs : ∀ x ∈ l, x.f0.size ≤ 9223372036854775807) :
  Calls Tryz.prog 21 #[.slice A l.length c] w fun e w' => ∃ v : Value, e = .returned v ∧ Kd.R X.k55 55 w' w.heap.size (fun _ => True) v (joinB l) ∧ Below w.heap.size w w' := by
 have cC := counts_any A c l w hr hl hs
 have cK := fun W => callsIn_wide.1 (Tryz.maps_Keys_58 (some w.heap.size) W)
 go_enter Tryz.func21, Tryz.ntmps21
 go_wp2_with fail
 refine cC.mono ?_
 rintro e w1 ⟨rfl, hown, hB1⟩
 have hz := hown.size_le
 have cS := callsIn_wide.1 (Tryz.slices_Sorted_keys_57_58 w.heap.size l.length (cntD l) _ w1 hown (by unfold maxLen; omega) (by omega))
 go_wp2_with fail
 refine (cK _).mono ?_
 rintro e w' ⟨rfl, rfl⟩
 go_wp2_with fail
 refine cS.mono ?_
 rintro e w5 ⟨v, ss, rfl, hS, hrow, hnil, hB5⟩
 have eM : ss.mergeSort (fun x y => decide (x ≤ y)) = (strKeys (cntD l)).mergeSort (fun x y => decide (x ≤ y)) := Go.mergeSort_of_perm hS
 have hB15 : Below w1.heap.size w1 w5 := ((Below.refl _ _).alloc (Nat.le_refl _) _).trans (hB5.mono (by simp))
 have hown5 := own_below hown hB15
 have hlen : (keysB l).length = ss.length := by unfold keysB; rw [List.length_map, List.length_mergeSort]; exact hS.length_eq.symm
 rw [eM, keysB_enc, ← hlen] at hrow
 have hR : Kd.R Kd.string 9 w5 _ (fun _ => True) v (keysB l) := Kd.R_of_own hrow (fun _ _ => trivial)
 obtain ⟨A5, c5, rfl⟩ := Kd.R_slice hR
 have hC5 := (Kd.R_reads' hR).2.2
 have hkl : ∀ x ∈ keysB l, x.size ≤ 9223372036854775807 := by
  intro x hx
  obtain ⟨s, hs', rfl⟩ := List.mem_map.1 hx
  have := strKeys_le hown Tryz.underlying9 s ((List.mergeSort_perm _ _).mem_iff.1 hs')
  simpa [ByteArray.size, maxLen] using this
 have hkn : (keysB l).length ≤ 100000 := by rw [hlen, hS.length_eq, strKeys_size _ hown.isMap]; omega
 have hB05 : Below w.heap.size w w5 := hB1.trans (hB15.mono hB1.size)
 clear hR hrow hS hnil eM hB5 hown cC cS cK hlen
 go_wp2_with fail
 go_loopw [4, 13] (fun v4 v13 wr => ∃ j : Nat, j ≤ (keysB l).length ∧ v13 = .int .i64 j ∧ Kd.R X.k55 55 wr w5.heap.size (fun _ => True) v4 ((joinB l).take j) ∧ Below w5.heap.size w5 wr) (fun _ v13 _ => (keysB l).length - (intOf v13).toNat)
 case atStart => exact ⟨0, by omega, rfl, Kd.R_nil _ _ _ _ _, Below.refl _ _⟩
 case round =>
  obtain ⟨j, hj, rfl, hO, hB⟩ := hrel
  by_cases hlt : j < (keysB l).length
  ·have hnext := Lib.hid (joinB_next l j hlt)
   obtain ⟨ad, cs, eA, _, hK, hc0⟩ := Kd.C_get hC5 (⟨#[]⟩ : ByteArray) (j : Int) (by omega) (by omega)
   subst eA
   have hx := hkl _ (List.getElem_mem hlt)
   have hg : (keysB l).getD (j : Int).toNat (⟨#[]⟩ : ByteArray) = (keysB l)[j] := by simp [List.getD, List.getElem?_eq_getElem hlt]
   rw [hg] at hK
   generalize (keysB l)[j] = x at hnext hx hK
   obtain rfl : cs = [.string x] := hK
   have hq : w5.cell? (ad.add ((j : Int).toNat * 1 + 0)) = some (.string x) := hc0 0 _ rfl
   rw [Nat.mul_one, Nat.add_zero, Int.toNat_natCast] at hq
   have a0 := keepw hB hq
   clear hc0 hg hq
   have hk := keyOf_bytes x hx
   have hownr := own_below hown5 hB
   have hOl : ((joinB l).take j).length ≤ 100000 := by rw [List.length_take]; omega
   go_wp2_with (first
    | (at_lookup; refine wpList_lookup_own_int _ rfl _ _ 100 rfl 9 3 .i64 lawS Tryz.underlying100 Tryz.underlying3 (zeroI _) w.heap.size l.length _ rfl hownr _ _ rfl hk ?_; intro q hat hwq)
    | ((with_reducible refine gate_builtin (b := .append) (xs := #[.tmp 17, .tmp 23]) rfl ?_); at_builtin; refine Kd.R_append X.k55 (w0 := w5) w5.heap.size rfl (.tmp 17) (.tmp 23) 35 55 (.agg #[.string ⟨#[]⟩, .int .i64 0]) 24 rfl Tryz.underlying35 X.info55 rfl (by decide) (by omega) _ ((joinB l).take j) (⟨x, q⟩ : X.S55) [.string x, .int .i64 q] (fun _ => True) (fun _ => False) rfl (by first | (go_simp; done) | (go_simp; rfl)) (X.k55_mkM _ _ _ (⟨x, q⟩ : X.S55)) (fun _ hk => hk.elim) (fun _ _ => trivial) hO hB hB.size (by omega) ?_; intro v1 w6 ho hb hg hat'))
   have hq : numAt (cntD l) (keyL x) = q := by unfold numAt litI; rw [hat]
   go_wp2_with fail
   refine ⟨⟨j + 1, by omega, by simp, ?_, hb⟩, by simp [intOf]; omega⟩
   rw [hnext.out, hq]
   exact ho
  ·have e : j = (keysB l).length := by omega
   subst e
   have eJ : (joinB l).take (keysB l).length = joinB l := List.take_of_length_le (by simp [joinB])
   rw [eJ] at hO
   go_wp2_with fail
   go_ret
   exact ⟨_, rfl, Kd.R_lower hO hB05.size, hB05.trans (hB.mono hB05.size)⟩
end Go.Proofs.YtfflbeenkfaemaaGreatDoor.Ext
namespace Go.Proofs
open Go.Shelf
def Tryz.laysM171_ren : Go.Shelf.Ren := ⟨fun | 171 => 99 | 243 => 128 | 246 => 162 | 283 => 186 | 284 => 187 | 285 => 188 | 286 => 189 | 129 => 131 | 317 => 198 | 318 => 199 | 319 => 200 | 320 => 201 | 337 => 204 | 338 => 205 | n => n, fun | 3 => 3 | 9 => 9 | 2 => 2 | 4 => 4 | 171 => 214 | 0 => 0 | 53 => 114 | 37 => 164 | 5 => 5 | 173 => 216 | 212 => 228 | 51 => 174 | 20 => 20 | 213 => 229 | 46 => 145 | 232 => 231 | 233 => 232 | n => n, fun | 17 => 3 | 18 => 5 | 19 => 6 | n => n⟩
theorem Tryz.laysM171 : Go.Proofs.LaysM.n171 Tryz.prog Tryz.laysM171_ren := {
 mixed := by kernel_rfl
 f129 := Tryz.func131.trans (congrArg some (by kernel_rfl))
 f171 := Tryz.func99.trans (congrArg some (by kernel_rfl))
 f243 := Tryz.func128.trans (congrArg some (by kernel_rfl))
 f246 := Tryz.func162.trans (congrArg some (by kernel_rfl))
 f283 := Tryz.func186.trans (congrArg some (by kernel_rfl))
 f284 := Tryz.func187.trans (congrArg some (by kernel_rfl))
 f285 := Tryz.func188.trans (congrArg some (by kernel_rfl))
 f286 := Tryz.func189.trans (congrArg some (by kernel_rfl))
 f317 := Tryz.func198.trans (congrArg some (by kernel_rfl))
 f318 := Tryz.func199.trans (congrArg some (by kernel_rfl))
 f319 := Tryz.func200.trans (congrArg some (by kernel_rfl))
 f320 := Tryz.func201.trans (congrArg some (by kernel_rfl))
 f337 := Tryz.func204.trans (congrArg some (by kernel_rfl))
 f338 := Tryz.func205.trans (congrArg some (by kernel_rfl))
 t0 := Tryz.underlying0
 a0 := Tryz.isAgg0
 z0 := Tryz.sizeOf0
 v0 := Tryz.zeroValue0
 t2 := Tryz.underlying2
 a2 := Tryz.isAgg2
 z2 := Tryz.sizeOf2
 v2 := Tryz.zeroValue2
 t3 := Tryz.underlying3
 a3 := Tryz.isAgg3
 z3 := Tryz.sizeOf3
 v3 := Tryz.zeroValue3
 t4 := Tryz.underlying4
 a4 := Tryz.isAgg4
 z4 := Tryz.sizeOf4
 v4 := Tryz.zeroValue4
 t5 := Tryz.underlying5
 a5 := Tryz.isAgg5
 z5 := Tryz.sizeOf5
 v5 := Tryz.zeroValue5
 t9 := Tryz.underlying9
 a9 := Tryz.isAgg9
 z9 := Tryz.sizeOf9
 v9 := Tryz.zeroValue9
 t20 := Tryz.underlying20
 a20 := Tryz.isAgg20
 z20 := Tryz.sizeOf20
 v20 := Tryz.zeroValue20
 t37 := Tryz.underlying164
 a37 := Tryz.isAgg164
 z37 := Tryz.sizeOf164
 v37 := Tryz.zeroValue164
 t46 := Tryz.underlying145
 a46 := Tryz.isAgg145
 z46 := Tryz.sizeOf145
 v46 := Tryz.zeroValue145
 t51 := Tryz.underlying174
 a51 := Tryz.isAgg174
 z51 := Tryz.sizeOf174
 v51 := Tryz.zeroValue174
 t53 := Tryz.underlying114
 a53 := Tryz.isAgg114
 z53 := Tryz.sizeOf114
 v53 := Tryz.zeroValue114
 t171 := Tryz.underlying214
 a171 := Tryz.isAgg214
 z171 := Tryz.sizeOf214
 v171 := Tryz.zeroValue214
 t173 := Tryz.underlying216
 a173 := Tryz.isAgg216
 z173 := Tryz.sizeOf216
 v173 := Tryz.zeroValue216
 t212 := Tryz.underlying228
 a212 := Tryz.isAgg228
 z212 := Tryz.sizeOf228
 v212 := Tryz.zeroValue228
 t213 := Tryz.underlying229
 a213 := Tryz.isAgg229
 z213 := Tryz.sizeOf229
 t232 := Tryz.underlying231
 a232 := Tryz.isAgg231
 z232 := Tryz.sizeOf231
 v232 := Tryz.zeroValue231
 t233 := Tryz.underlying232
 a233 := Tryz.isAgg232
 z233 := Tryz.sizeOf232
 v233 := Tryz.zeroValue232
 g17 := by kernel_rfl
 g18 := by kernel_rfl
 g19 := by kernel_rfl
 i0 := by kernel_rfl
 i2 := by kernel_rfl
 i3 := by kernel_rfl
 i4 := by kernel_rfl
 i5 := by kernel_rfl
 i9 := by kernel_rfl
 i20 := by kernel_rfl
 i37 := by kernel_rfl
 i46 := by kernel_rfl
 i51 := by kernel_rfl
 i53 := by kernel_rfl
 i171 := by kernel_rfl
 i173 := by kernel_rfl
 i212 := by kernel_rfl
 i232 := by kernel_rfl
 i233 := by kernel_rfl
 m17 := by kernel_rfl
 m18 := by kernel_rfl
 m19 := by kernel_rfl }
open Go.RowKit Go.Sort Go.Lib in
/-- strconv.Itoa: "Itoa is equivalent to FormatInt(int64(i), 10).": i's DECIMAL NUMERAL ('Lib.itoa': a '-' where i is negative, then the digits), FOR EVERY int. The world behind the call: the world before it, new blocks behind the heap (the library's 'var a [24]byte'), draws. (LAID: no walk: one application.) -/
theorem Tryz.strconv_Itoa (n : Int) (h0 : -9223372036854775808 ≤ n) (h1 : n ≤ 9223372036854775807) (w : World) (htab : Lib.TabIs Tryz.prog w "internal/strconv.uint64pow10" .u64 Lib.pow10Tab) :
  Calls Tryz.prog 99 #[.int .i64 n] w fun e w' => e = .returned (.string ⟨(Lib.itoa n).toArray⟩) ∧ ∃ k os, w' = grow (w.drewN k) os := Any.strconv_Itoa Tryz.laysM171 n h0 h1 w htab
def Tryz.lays99_ren : Go.Shelf.Ren := ⟨fun | 99 => 142 | 206 => 169 | n => n, fun | 9 => 9 | 4 => 4 | 3 => 3 | n => n, fun | n => n⟩
theorem Tryz.lays99 : Go.Proofs.Lays.n99 Tryz.prog Tryz.lays99_ren := {
 mixed := by kernel_rfl
 f99 := Tryz.func142.trans (congrArg some (by kernel_rfl))
 f206 := Tryz.func169.trans (congrArg some (by kernel_rfl))
 t3 := Tryz.underlying3
 a3 := Tryz.isAgg3
 z3 := Tryz.sizeOf3
 v3 := Tryz.zeroValue3
 t4 := Tryz.underlying4
 a4 := Tryz.isAgg4
 z4 := Tryz.sizeOf4
 v4 := Tryz.zeroValue4
 t9 := Tryz.underlying9
 a9 := Tryz.isAgg9
 z9 := Tryz.sizeOf9
 v9 := Tryz.zeroValue9 }
open Go.RowKit Go.Lib in
/-- strings.HasPrefix: "HasPrefix reports whether the string s begins with prefix.": IT RETURNS 'Lib.hasPrefix s prefix'; the world is as it was. (LAID: no walk: one application.) -/
theorem Tryz.strings_HasPrefix (s p : ByteArray) (w : World) :
  Calls Tryz.prog 142 #[.string s, .string p] w fun e w' => e = .returned (.bool (Lib.hasPrefix s.data.toList p.data.toList)) ∧ w' = w := Any.strings_HasPrefix Tryz.lays99 s p w
def Tryz.lays264_ren : Go.Shelf.Ren := ⟨fun | 264 => 70 | n => n, fun | 53 => 114 | 46 => 145 | n => n, fun | n => n⟩
theorem Tryz.lays264 : Go.Proofs.Lays.n264 Tryz.prog Tryz.lays264_ren := {
 mixed := by kernel_rfl
 f264 := Tryz.func70.trans (congrArg some (by kernel_rfl))
 t46 := Tryz.underlying145
 a46 := Tryz.isAgg145
 z46 := Tryz.sizeOf145
 v46 := Tryz.zeroValue145
 t53 := Tryz.underlying114
 a53 := Tryz.isAgg114
 z53 := Tryz.sizeOf114
 v53 := Tryz.zeroValue114 }
open Go.RowKit Go.Lib in
theorem Tryz.bits_Mul64 (x y : Nat) (hx : x < 18446744073709551616) (hy : y < 18446744073709551616) (w : World) :
  Calls Tryz.prog 70 #[.int .u64 x, .int .u64 y] w fun e w' => e = .returned (.tuple #[.int .u64 ((x * y / 18446744073709551616 : Nat) : Int), .int .u64 ((x * y % 18446744073709551616 : Nat) : Int)]) ∧ w' = w := Any.bits_Mul64 Tryz.lays264 x y hx hy w
def Tryz.lays105_ren : Go.Shelf.Ren := ⟨fun | 105 => 114 | 212 => 141 | 99 => 142 | 165 => 143 | 166 => 144 | 170 => 145 | 169 => 146 | 263 => 168 | 264 => 70 | 206 => 169 | 240 => 170 | 241 => 171 | 276 => 191 | 277 => 192 | n => n, fun | 9 => 9 | 3 => 3 | 4 => 4 | 20 => 20 | 0 => 0 | 46 => 145 | 109 => 175 | 5 => 5 | 72 => 180 | 76 => 182 | 51 => 174 | 146 => 202 | 53 => 114 | 148 => 116 | 70 => 178 | 37 => 164 | 75 => 147 | 127 => 204 | 164 => 220 | 80 => 185 | n => n, fun | n => n⟩
theorem Tryz.lays105 : Go.Proofs.Lays.n105 Tryz.prog Tryz.lays105_ren := {
 mixed := by kernel_rfl
 f99 := Tryz.func142.trans (congrArg some (by kernel_rfl))
 f105 := Tryz.func114.trans (congrArg some (by kernel_rfl))
 f165 := Tryz.func143.trans (congrArg some (by kernel_rfl))
 f166 := Tryz.func144.trans (congrArg some (by kernel_rfl))
 f169 := Tryz.func146.trans (congrArg some (by kernel_rfl))
 f170 := Tryz.func145.trans (congrArg some (by kernel_rfl))
 f206 := Tryz.func169.trans (congrArg some (by kernel_rfl))
 f212 := Tryz.func141.trans (congrArg some (by kernel_rfl))
 f240 := Tryz.func170.trans (congrArg some (by kernel_rfl))
 f241 := Tryz.func171.trans (congrArg some (by kernel_rfl))
 f263 := Tryz.func168.trans (congrArg some (by kernel_rfl))
 f264 := Tryz.func70.trans (congrArg some (by kernel_rfl))
 f276 := Tryz.func191.trans (congrArg some (by kernel_rfl))
 f277 := Tryz.func192.trans (congrArg some (by kernel_rfl))
 t0 := Tryz.underlying0
 a0 := Tryz.isAgg0
 z0 := Tryz.sizeOf0
 v0 := Tryz.zeroValue0
 t3 := Tryz.underlying3
 a3 := Tryz.isAgg3
 z3 := Tryz.sizeOf3
 v3 := Tryz.zeroValue3
 t4 := Tryz.underlying4
 a4 := Tryz.isAgg4
 z4 := Tryz.sizeOf4
 v4 := Tryz.zeroValue4
 t5 := Tryz.underlying5
 a5 := Tryz.isAgg5
 z5 := Tryz.sizeOf5
 v5 := Tryz.zeroValue5
 t9 := Tryz.underlying9
 a9 := Tryz.isAgg9
 z9 := Tryz.sizeOf9
 v9 := Tryz.zeroValue9
 t20 := Tryz.underlying20
 a20 := Tryz.isAgg20
 z20 := Tryz.sizeOf20
 v20 := Tryz.zeroValue20
 t37 := Tryz.underlying164
 a37 := Tryz.isAgg164
 z37 := Tryz.sizeOf164
 v37 := Tryz.zeroValue164
 t46 := Tryz.underlying145
 a46 := Tryz.isAgg145
 z46 := Tryz.sizeOf145
 v46 := Tryz.zeroValue145
 t51 := Tryz.underlying174
 a51 := Tryz.isAgg174
 z51 := Tryz.sizeOf174
 v51 := Tryz.zeroValue174
 t53 := Tryz.underlying114
 a53 := Tryz.isAgg114
 z53 := Tryz.sizeOf114
 v53 := Tryz.zeroValue114
 t70 := Tryz.underlying178
 a70 := Tryz.isAgg178
 z70 := Tryz.sizeOf178
 v70 := Tryz.zeroValue178
 t72 := Tryz.underlying180
 a72 := Tryz.isAgg180
 z72 := Tryz.sizeOf180
 v72 := Tryz.zeroValue180
 t75 := Tryz.underlying147
 a75 := Tryz.isAgg147
 z75 := Tryz.sizeOf147
 v75 := Tryz.zeroValue147
 t76 := Tryz.underlying182
 a76 := Tryz.isAgg182
 z76 := Tryz.sizeOf182
 v76 := Tryz.zeroValue182
 t109 := Tryz.underlying175
 a109 := Tryz.isAgg175
 z109 := Tryz.sizeOf175
 v109 := Tryz.zeroValue175
 t127 := Tryz.underlying204
 a127 := Tryz.isAgg204
 z127 := Tryz.sizeOf204
 v127 := Tryz.zeroValue204
 t146 := Tryz.underlying202
 a146 := Tryz.isAgg202
 z146 := Tryz.sizeOf202
 v146 := Tryz.zeroValue202
 t148 := Tryz.underlying116
 a148 := Tryz.isAgg116
 z148 := Tryz.sizeOf116
 v148 := Tryz.zeroValue116
 t164 := Tryz.underlying220
 a164 := Tryz.isAgg220
 z164 := Tryz.sizeOf220
 v164 := Tryz.zeroValue220 }
theorem Tryz.Builder_Extra_105 : Builder.Extra Tryz.prog Tryz.lays105_ren := {
 sizeBuilder := by kernel_rfl
 liesBuilder := by kernel_rfl
 t5 := Tryz.underlying5
 a5 := Tryz.isAgg5
 z5 := Tryz.sizeOf5
 v5 := Tryz.zeroValue5
 infoByte := by kernel_rfl
 cellsByte := by kernel_rfl
 sizeByte := by kernel_rfl
 neB5 := by decide }
open Go.RowKit Go.Lib in
/-- **strings.Repeat: count ≥ 0, the result within one allocation: count copies of s.** (LAID: no walk: one application.) -/
theorem Tryz.strings_Repeat (s : ByteArray) (c : Nat) (w : World) (hc : c ≤ 9223372036854775807) (hlen : s.size * c ≤ 140737488355328) :
  Calls Tryz.prog 114 #[.string s, .int .i64 c] w fun e w' => e = .returned (.string ⟨(Lib.repeatL s.data.toList c).toArray⟩) ∧ Below w.heap.size w w' := Any.strings_Repeat Tryz.lays105 Tryz.Builder_Extra_105 s c w hc hlen
def Tryz.lays107_ren : Go.Shelf.Ren := ⟨fun | 107 => 93 | 108 => 124 | n => n, fun | 28 => 95 | 3 => 3 | 4 => 4 | 0 => 0 | n => n, fun | n => n⟩
theorem Tryz.lays107 : Go.Proofs.Lays.n107 Tryz.prog Tryz.lays107_ren := {
 mixed := by kernel_rfl
 f107 := Tryz.func93.trans (congrArg some (by kernel_rfl))
 f108 := Tryz.func124.trans (congrArg some (by kernel_rfl))
 t0 := Tryz.underlying0
 a0 := Tryz.isAgg0
 z0 := Tryz.sizeOf0
 v0 := Tryz.zeroValue0
 t3 := Tryz.underlying3
 a3 := Tryz.isAgg3
 z3 := Tryz.sizeOf3
 v3 := Tryz.zeroValue3
 t4 := Tryz.underlying4
 a4 := Tryz.isAgg4
 z4 := Tryz.sizeOf4
 v4 := Tryz.zeroValue4
 t28 := Tryz.underlying95
 a28 := Tryz.isAgg95
 z28 := Tryz.sizeOf95
 v28 := Tryz.zeroValue95 }
open Go.Lib in
/-- slices.Contains at []int: "Contains reports whether v is present in s.": IT RETURNS 'elements.contains v'; the world is as it was. ITS CALLEE slices.Index IS MET BY ITS OWN CONTRACT OFF THE SHELF (lay that first): no loop is walked here. (LAID: no walk: one application.) -/
theorem Tryz.slices_Contains_int (b off n c : Nat) (zs : List Int) (x : Int) (w : World) (hz : n ≤ zs.length) (hbig : n ≤ 9223372036854775807) (hc : ∀ j, j < zs.length → w.cell? ⟨b, off + j, none⟩ = some (.int .i64 (zs.getD j 0))) :
  Calls Tryz.prog 93 #[.slice (some ⟨b, off, none⟩) n c, .int .i64 x] w fun e w' => e = .returned (.bool ((zs.take n).contains x)) ∧ w' = w := Any.slices_Contains_int Tryz.lays107 b off n c zs x w hz hbig hc
open Go.Lib in
/-- The same at a slice of length 0, a nil one too. (LAID: no walk: one application.) -/
theorem Tryz.slices_Contains_int_empty (a : Option Addr) (c : Nat) (x : Int) (w : World) :
  Calls Tryz.prog 93 #[.slice a 0 c, .int .i64 x] w fun e w' => e = .returned (.bool false) ∧ w' = w := Any.slices_Contains_int_empty Tryz.lays107 a c x w
def Tryz.lays190_ren : Go.Shelf.Ren := ⟨fun | 190 => 95 | 125 => 110 | 258 => 126 | 128 => 140 | 129 => 131 | 302 => 153 | 303 => 154 | 304 => 155 | 305 => 156 | 306 => 157 | 307 => 158 | 308 => 159 | 309 => 160 | 310 => 161 | 333 => 183 | 329 => 164 | 330 => 165 | 334 => 184 | 335 => 185 | 336 => 148 | 344 => 197 | n => n, fun | 31 => 102 | 9 => 9 | 3 => 3 | 46 => 145 | 0 => 0 | 51 => 174 | 53 => 114 | 4 => 4 | 183 => 168 | 182 => 167 | 131 => 128 | 5 => 5 | 218 => 196 | 222 => 200 | 228 => 218 | 229 => 47 | n => n, fun | n => n⟩
theorem Tryz.lays190 : Go.Proofs.Lays.n190 Tryz.prog Tryz.lays190_ren := {
 mixed := by kernel_rfl
 f125 := Tryz.func110.trans (congrArg some (by kernel_rfl))
 f128 := Tryz.func140.trans (congrArg some (by kernel_rfl))
 f129 := Tryz.func131.trans (congrArg some (by kernel_rfl))
 f190 := Tryz.func95.trans (congrArg some (by kernel_rfl))
 f258 := Tryz.func126.trans (congrArg some (by kernel_rfl))
 f302 := Tryz.func153.trans (congrArg some (by kernel_rfl))
 f303 := Tryz.func154.trans (congrArg some (by kernel_rfl))
 f304 := Tryz.func155.trans (congrArg some (by kernel_rfl))
 f305 := Tryz.func156.trans (congrArg some (by kernel_rfl))
 f306 := Tryz.func157.trans (congrArg some (by kernel_rfl))
 f307 := Tryz.func158.trans (congrArg some (by kernel_rfl))
 f308 := Tryz.func159.trans (congrArg some (by kernel_rfl))
 f309 := Tryz.func160.trans (congrArg some (by kernel_rfl))
 f310 := Tryz.func161.trans (congrArg some (by kernel_rfl))
 f329 := Tryz.func164.trans (congrArg some (by kernel_rfl))
 f330 := Tryz.func165.trans (congrArg some (by kernel_rfl))
 f333 := Tryz.func183.trans (congrArg some (by kernel_rfl))
 f334 := Tryz.func184.trans (congrArg some (by kernel_rfl))
 f335 := Tryz.func185.trans (congrArg some (by kernel_rfl))
 f336 := Tryz.func148.trans (congrArg some (by kernel_rfl))
 f344 := Tryz.func197.trans (congrArg some (by kernel_rfl))
 t0 := Tryz.underlying0
 a0 := Tryz.isAgg0
 z0 := Tryz.sizeOf0
 v0 := Tryz.zeroValue0
 t3 := Tryz.underlying3
 a3 := Tryz.isAgg3
 z3 := Tryz.sizeOf3
 v3 := Tryz.zeroValue3
 t4 := Tryz.underlying4
 a4 := Tryz.isAgg4
 z4 := Tryz.sizeOf4
 v4 := Tryz.zeroValue4
 t5 := Tryz.underlying5
 a5 := Tryz.isAgg5
 z5 := Tryz.sizeOf5
 v5 := Tryz.zeroValue5
 t9 := Tryz.underlying9
 a9 := Tryz.isAgg9
 z9 := Tryz.sizeOf9
 v9 := Tryz.zeroValue9
 t31 := Tryz.underlying102
 a31 := Tryz.isAgg102
 z31 := Tryz.sizeOf102
 v31 := Tryz.zeroValue102
 t46 := Tryz.underlying145
 a46 := Tryz.isAgg145
 z46 := Tryz.sizeOf145
 v46 := Tryz.zeroValue145
 t51 := Tryz.underlying174
 a51 := Tryz.isAgg174
 z51 := Tryz.sizeOf174
 v51 := Tryz.zeroValue174
 t53 := Tryz.underlying114
 a53 := Tryz.isAgg114
 z53 := Tryz.sizeOf114
 v53 := Tryz.zeroValue114
 t131 := Tryz.underlying128
 a131 := Tryz.isAgg128
 z131 := Tryz.sizeOf128
 v131 := Tryz.zeroValue128
 t182 := Tryz.underlying167
 a182 := Tryz.isAgg167
 z182 := Tryz.sizeOf167
 v182 := Tryz.zeroValue167
 t183 := Tryz.underlying168
 a183 := Tryz.isAgg168
 z183 := Tryz.sizeOf168
 v183 := Tryz.zeroValue168
 t218 := Tryz.underlying196
 a218 := Tryz.isAgg196
 z218 := Tryz.sizeOf196
 v218 := Tryz.zeroValue196
 t222 := Tryz.underlying200
 a222 := Tryz.isAgg200
 z222 := Tryz.sizeOf200
 v222 := Tryz.zeroValue200
 t228 := Tryz.underlying218
 a228 := Tryz.isAgg218
 z228 := Tryz.sizeOf218
 v228 := Tryz.zeroValue218
 t229 := Tryz.underlying47
 a229 := Tryz.isAgg47
 z229 := Tryz.sizeOf47
 v229 := Tryz.zeroValue47 }
open Go.RowKit Go.Sort in
/-- .. and plain. (LAID: no walk: one application.) -/
theorem Tryz.slices_Sort_string_none (p : Option Addr) (cap : Nat) (w : World) :
  Calls Tryz.prog 95 #[.slice p 0 cap] w fun e w' => e = .returned (.tuple #[]) ∧ w' = w := Any.slices_Sort_string_none Tryz.lays190 p cap w
def Tryz.lays189_ren : Go.Shelf.Ren := ⟨fun | 189 => 122 | 125 => 110 | 257 => 152 | 128 => 140 | 129 => 131 | 294 => 174 | 295 => 175 | 296 => 176 | 297 => 177 | 298 => 178 | 299 => 179 | 216 => 180 | 300 => 181 | 301 => 182 | 328 => 194 | 329 => 164 | 330 => 165 | 331 => 195 | 332 => 196 | 215 => 112 | 343 => 203 | n => n, fun | 28 => 95 | 3 => 3 | 46 => 145 | 0 => 0 | 51 => 174 | 53 => 114 | 4 => 4 | 183 => 168 | 182 => 167 | 131 => 128 | 5 => 5 | 9 => 9 | 218 => 196 | 222 => 200 | 228 => 218 | 229 => 47 | n => n, fun | n => n⟩
theorem Tryz.lays189 : Go.Proofs.Lays.n189 Tryz.prog Tryz.lays189_ren := {
 mixed := by kernel_rfl
 f125 := Tryz.func110.trans (congrArg some (by kernel_rfl))
 f128 := Tryz.func140.trans (congrArg some (by kernel_rfl))
 f129 := Tryz.func131.trans (congrArg some (by kernel_rfl))
 f189 := Tryz.func122.trans (congrArg some (by kernel_rfl))
 f215 := Tryz.func112.trans (congrArg some (by kernel_rfl))
 f216 := Tryz.func180.trans (congrArg some (by kernel_rfl))
 f257 := Tryz.func152.trans (congrArg some (by kernel_rfl))
 f294 := Tryz.func174.trans (congrArg some (by kernel_rfl))
 f295 := Tryz.func175.trans (congrArg some (by kernel_rfl))
 f296 := Tryz.func176.trans (congrArg some (by kernel_rfl))
 f297 := Tryz.func177.trans (congrArg some (by kernel_rfl))
 f298 := Tryz.func178.trans (congrArg some (by kernel_rfl))
 f299 := Tryz.func179.trans (congrArg some (by kernel_rfl))
 f300 := Tryz.func181.trans (congrArg some (by kernel_rfl))
 f301 := Tryz.func182.trans (congrArg some (by kernel_rfl))
 f328 := Tryz.func194.trans (congrArg some (by kernel_rfl))
 f329 := Tryz.func164.trans (congrArg some (by kernel_rfl))
 f330 := Tryz.func165.trans (congrArg some (by kernel_rfl))
 f331 := Tryz.func195.trans (congrArg some (by kernel_rfl))
 f332 := Tryz.func196.trans (congrArg some (by kernel_rfl))
 f343 := Tryz.func203.trans (congrArg some (by kernel_rfl))
 t0 := Tryz.underlying0
 a0 := Tryz.isAgg0
 z0 := Tryz.sizeOf0
 v0 := Tryz.zeroValue0
 t3 := Tryz.underlying3
 a3 := Tryz.isAgg3
 z3 := Tryz.sizeOf3
 v3 := Tryz.zeroValue3
 t4 := Tryz.underlying4
 a4 := Tryz.isAgg4
 z4 := Tryz.sizeOf4
 v4 := Tryz.zeroValue4
 t5 := Tryz.underlying5
 a5 := Tryz.isAgg5
 z5 := Tryz.sizeOf5
 v5 := Tryz.zeroValue5
 t9 := Tryz.underlying9
 a9 := Tryz.isAgg9
 z9 := Tryz.sizeOf9
 v9 := Tryz.zeroValue9
 t28 := Tryz.underlying95
 a28 := Tryz.isAgg95
 z28 := Tryz.sizeOf95
 v28 := Tryz.zeroValue95
 t46 := Tryz.underlying145
 a46 := Tryz.isAgg145
 z46 := Tryz.sizeOf145
 v46 := Tryz.zeroValue145
 t51 := Tryz.underlying174
 a51 := Tryz.isAgg174
 z51 := Tryz.sizeOf174
 v51 := Tryz.zeroValue174
 t53 := Tryz.underlying114
 a53 := Tryz.isAgg114
 z53 := Tryz.sizeOf114
 v53 := Tryz.zeroValue114
 t131 := Tryz.underlying128
 a131 := Tryz.isAgg128
 z131 := Tryz.sizeOf128
 v131 := Tryz.zeroValue128
 t182 := Tryz.underlying167
 a182 := Tryz.isAgg167
 z182 := Tryz.sizeOf167
 v182 := Tryz.zeroValue167
 t183 := Tryz.underlying168
 a183 := Tryz.isAgg168
 z183 := Tryz.sizeOf168
 v183 := Tryz.zeroValue168
 t218 := Tryz.underlying196
 a218 := Tryz.isAgg196
 z218 := Tryz.sizeOf196
 v218 := Tryz.zeroValue196
 t222 := Tryz.underlying200
 a222 := Tryz.isAgg200
 z222 := Tryz.sizeOf200
 v222 := Tryz.zeroValue200
 t228 := Tryz.underlying218
 a228 := Tryz.isAgg218
 z228 := Tryz.sizeOf218
 v228 := Tryz.zeroValue218
 t229 := Tryz.underlying47
 a229 := Tryz.isAgg47
 z229 := Tryz.sizeOf47
 v229 := Tryz.zeroValue47 }
open Go.RowKit Go.Sort in
/-- .. and plain. (LAID: no walk: one application.) -/
theorem Tryz.slices_Sort_int_none (p : Option Addr) (cap : Nat) (w : World) :
  Calls Tryz.prog 122 #[.slice p 0 cap] w fun e w' => e = .returned (.tuple #[]) ∧ w' = w := Any.slices_Sort_int_none Tryz.lays189 p cap w
def Tryz.laysSlM5_f122_ren : Go.Shelf.Ren := ⟨fun | 5 => 122 | 8 => 110 | 7 => 152 | 19 => 140 | 20 => 131 | 10 => 174 | 11 => 175 | 12 => 176 | 13 => 177 | 14 => 178 | 15 => 179 | 16 => 180 | 17 => 181 | 18 => 182 | 30 => 194 | 31 => 164 | 32 => 165 | 33 => 195 | 34 => 196 | 35 => 112 | 40 => 203 | n => n, fun | 23 => 95 | 25 => 3 | 3 => 3 | 32 => 145 | 22 => 95 | 0 => 0 | 44 => 174 | 46 => 114 | 4 => 4 | 36 => 168 | 35 => 167 | 41 => 128 | 5 => 5 | 9 => 9 | 53 => 196 | 57 => 200 | 63 => 218 | 64 => 47 | n => n, fun | n => n⟩
theorem Tryz.laysSlM5_f122 : Go.Proofs.SlLaysM.n5 Tryz.prog Tryz.laysSlM5_f122_ren := {
 mixed := by kernel_rfl
 f5 := ⟨Tryz.f122.name, by decide, Tryz.func122.trans (congrArg some (by kernel_rfl))⟩
 f7 := ⟨Tryz.f152.name, by decide, Tryz.func152.trans (congrArg some (by kernel_rfl))⟩
 f8 := Tryz.func110.trans (congrArg some (by kernel_rfl))
 f10 := ⟨Tryz.f174.name, by decide, Tryz.func174.trans (congrArg some (by kernel_rfl))⟩
 f11 := ⟨Tryz.f175.name, by decide, Tryz.func175.trans (congrArg some (by kernel_rfl))⟩
 f12 := ⟨Tryz.f176.name, by decide, Tryz.func176.trans (congrArg some (by kernel_rfl))⟩
 f13 := ⟨Tryz.f177.name, by decide, Tryz.func177.trans (congrArg some (by kernel_rfl))⟩
 f14 := ⟨Tryz.f178.name, by decide, Tryz.func178.trans (congrArg some (by kernel_rfl))⟩
 f15 := ⟨Tryz.f179.name, by decide, Tryz.func179.trans (congrArg some (by kernel_rfl))⟩
 f16 := ⟨Tryz.f180.name, by decide, Tryz.func180.trans (congrArg some (by kernel_rfl))⟩
 f17 := ⟨Tryz.f181.name, by decide, Tryz.func181.trans (congrArg some (by kernel_rfl))⟩
 f18 := ⟨Tryz.f182.name, by decide, Tryz.func182.trans (congrArg some (by kernel_rfl))⟩
 f19 := Tryz.func140.trans (congrArg some (by kernel_rfl))
 f20 := Tryz.func131.trans (congrArg some (by kernel_rfl))
 f30 := ⟨Tryz.f194.name, by decide, Tryz.func194.trans (congrArg some (by kernel_rfl))⟩
 f31 := Tryz.func164.trans (congrArg some (by kernel_rfl))
 f32 := Tryz.func165.trans (congrArg some (by kernel_rfl))
 f33 := ⟨Tryz.f195.name, by decide, Tryz.func195.trans (congrArg some (by kernel_rfl))⟩
 f34 := ⟨Tryz.f196.name, by decide, Tryz.func196.trans (congrArg some (by kernel_rfl))⟩
 f35 := ⟨Tryz.f112.name, by decide, Tryz.func112.trans (congrArg some (by kernel_rfl))⟩
 f40 := ⟨Tryz.f203.name, by decide, Tryz.func203.trans (congrArg some (by kernel_rfl))⟩
 t0 := Tryz.underlying0
 a0 := Tryz.isAgg0
 z0 := Tryz.sizeOf0
 v0 := Tryz.zeroValue0
 t3 := Tryz.underlying3
 a3 := Tryz.isAgg3
 z3 := Tryz.sizeOf3
 v3 := Tryz.zeroValue3
 t4 := Tryz.underlying4
 a4 := Tryz.isAgg4
 z4 := Tryz.sizeOf4
 v4 := Tryz.zeroValue4
 t5 := Tryz.underlying5
 a5 := Tryz.isAgg5
 z5 := Tryz.sizeOf5
 v5 := Tryz.zeroValue5
 t9 := Tryz.underlying9
 a9 := Tryz.isAgg9
 z9 := Tryz.sizeOf9
 v9 := Tryz.zeroValue9
 t22 := Tryz.underlying95
 a22 := Tryz.isAgg95
 z22 := Tryz.sizeOf95
 v22 := Tryz.zeroValue95
 t23 := Tryz.underlying95
 a23 := Tryz.isAgg95
 z23 := Tryz.sizeOf95
 v23 := Tryz.zeroValue95
 t25 := Tryz.underlying3
 a25 := Tryz.isAgg3
 z25 := Tryz.sizeOf3
 v25 := Tryz.zeroValue3
 t32 := Tryz.underlying145
 a32 := Tryz.isAgg145
 z32 := Tryz.sizeOf145
 v32 := Tryz.zeroValue145
 t35 := Tryz.underlying167
 a35 := Tryz.isAgg167
 z35 := Tryz.sizeOf167
 v35 := Tryz.zeroValue167
 t36 := Tryz.underlying168
 a36 := Tryz.isAgg168
 z36 := Tryz.sizeOf168
 v36 := Tryz.zeroValue168
 t41 := Tryz.underlying128
 a41 := Tryz.isAgg128
 z41 := Tryz.sizeOf128
 v41 := Tryz.zeroValue128
 t44 := Tryz.underlying174
 a44 := Tryz.isAgg174
 z44 := Tryz.sizeOf174
 v44 := Tryz.zeroValue174
 t46 := Tryz.underlying114
 a46 := Tryz.isAgg114
 z46 := Tryz.sizeOf114
 v46 := Tryz.zeroValue114
 t53 := Tryz.underlying196
 a53 := Tryz.isAgg196
 z53 := Tryz.sizeOf196
 v53 := Tryz.zeroValue196
 t57 := Tryz.underlying200
 a57 := Tryz.isAgg200
 z57 := Tryz.sizeOf200
 v57 := Tryz.zeroValue200
 t63 := Tryz.underlying218
 a63 := Tryz.isAgg218
 z63 := Tryz.sizeOf218
 v63 := Tryz.zeroValue218
 t64 := Tryz.underlying47
 a64 := Tryz.isAgg47
 z64 := Tryz.sizeOf47
 v64 := Tryz.zeroValue47 }
open Go.Sort Go.RowKit in
theorem Tryz.slices_Sort_int (blk off cap : Nat) (zs : List Int) (w : World) (hH : Holds (Value.int .i64) w blk off zs.toArray) (hblk : blk < w.heap.size) (hsz : zs.length < 4611686018427387904) :
  Calls Tryz.prog 122 #[.slice (some ⟨blk, off, none⟩) zs.length cap] w fun e w' =>
   e = .returned (.tuple #[]) ∧ ∃ n os, w' = grow (putRow (Value.int .i64) (Sort.ahead w n) blk off (zs.mergeSort fun x y => decide (x ≤ y)).toArray) os := AnyM.slices_Sort_int Tryz.laysSlM5_f122 blk off cap zs w hH hblk hsz
def Tryz.laysSlM6_f95_ren : Go.Shelf.Ren := ⟨fun | 6 => 95 | 8 => 110 | 9 => 126 | 19 => 140 | 20 => 131 | 21 => 153 | 22 => 154 | 23 => 155 | 24 => 156 | 25 => 157 | 26 => 158 | 27 => 159 | 28 => 160 | 29 => 161 | 36 => 183 | 31 => 164 | 32 => 165 | 37 => 184 | 38 => 185 | 39 => 148 | 41 => 197 | n => n, fun | 27 => 102 | 29 => 9 | 3 => 3 | 32 => 145 | 26 => 102 | 0 => 0 | 44 => 174 | 46 => 114 | 4 => 4 | 36 => 168 | 35 => 167 | 41 => 128 | 5 => 5 | 9 => 9 | 53 => 196 | 57 => 200 | 63 => 218 | 64 => 47 | n => n, fun | n => n⟩
theorem Tryz.laysSlM6_f95 : Go.Proofs.SlLaysM.n6 Tryz.prog Tryz.laysSlM6_f95_ren := {
 mixed := by kernel_rfl
 f6 := ⟨Tryz.f95.name, by decide, Tryz.func95.trans (congrArg some (by kernel_rfl))⟩
 f8 := Tryz.func110.trans (congrArg some (by kernel_rfl))
 f9 := ⟨Tryz.f126.name, by decide, Tryz.func126.trans (congrArg some (by kernel_rfl))⟩
 f19 := Tryz.func140.trans (congrArg some (by kernel_rfl))
 f20 := Tryz.func131.trans (congrArg some (by kernel_rfl))
 f21 := ⟨Tryz.f153.name, by decide, Tryz.func153.trans (congrArg some (by kernel_rfl))⟩
 f22 := ⟨Tryz.f154.name, by decide, Tryz.func154.trans (congrArg some (by kernel_rfl))⟩
 f23 := ⟨Tryz.f155.name, by decide, Tryz.func155.trans (congrArg some (by kernel_rfl))⟩
 f24 := ⟨Tryz.f156.name, by decide, Tryz.func156.trans (congrArg some (by kernel_rfl))⟩
 f25 := ⟨Tryz.f157.name, by decide, Tryz.func157.trans (congrArg some (by kernel_rfl))⟩
 f26 := ⟨Tryz.f158.name, by decide, Tryz.func158.trans (congrArg some (by kernel_rfl))⟩
 f27 := ⟨Tryz.f159.name, by decide, Tryz.func159.trans (congrArg some (by kernel_rfl))⟩
 f28 := ⟨Tryz.f160.name, by decide, Tryz.func160.trans (congrArg some (by kernel_rfl))⟩
 f29 := ⟨Tryz.f161.name, by decide, Tryz.func161.trans (congrArg some (by kernel_rfl))⟩
 f31 := Tryz.func164.trans (congrArg some (by kernel_rfl))
 f32 := Tryz.func165.trans (congrArg some (by kernel_rfl))
 f36 := ⟨Tryz.f183.name, by decide, Tryz.func183.trans (congrArg some (by kernel_rfl))⟩
 f37 := ⟨Tryz.f184.name, by decide, Tryz.func184.trans (congrArg some (by kernel_rfl))⟩
 f38 := ⟨Tryz.f185.name, by decide, Tryz.func185.trans (congrArg some (by kernel_rfl))⟩
 f39 := ⟨Tryz.f148.name, by decide, Tryz.func148.trans (congrArg some (by kernel_rfl))⟩
 f41 := ⟨Tryz.f197.name, by decide, Tryz.func197.trans (congrArg some (by kernel_rfl))⟩
 t0 := Tryz.underlying0
 a0 := Tryz.isAgg0
 z0 := Tryz.sizeOf0
 v0 := Tryz.zeroValue0
 t3 := Tryz.underlying3
 a3 := Tryz.isAgg3
 z3 := Tryz.sizeOf3
 v3 := Tryz.zeroValue3
 t4 := Tryz.underlying4
 a4 := Tryz.isAgg4
 z4 := Tryz.sizeOf4
 v4 := Tryz.zeroValue4
 t5 := Tryz.underlying5
 a5 := Tryz.isAgg5
 z5 := Tryz.sizeOf5
 v5 := Tryz.zeroValue5
 t9 := Tryz.underlying9
 a9 := Tryz.isAgg9
 z9 := Tryz.sizeOf9
 v9 := Tryz.zeroValue9
 t26 := Tryz.underlying102
 a26 := Tryz.isAgg102
 z26 := Tryz.sizeOf102
 v26 := Tryz.zeroValue102
 t27 := Tryz.underlying102
 a27 := Tryz.isAgg102
 z27 := Tryz.sizeOf102
 v27 := Tryz.zeroValue102
 t29 := Tryz.underlying9
 a29 := Tryz.isAgg9
 z29 := Tryz.sizeOf9
 v29 := Tryz.zeroValue9
 t32 := Tryz.underlying145
 a32 := Tryz.isAgg145
 z32 := Tryz.sizeOf145
 v32 := Tryz.zeroValue145
 t35 := Tryz.underlying167
 a35 := Tryz.isAgg167
 z35 := Tryz.sizeOf167
 v35 := Tryz.zeroValue167
 t36 := Tryz.underlying168
 a36 := Tryz.isAgg168
 z36 := Tryz.sizeOf168
 v36 := Tryz.zeroValue168
 t41 := Tryz.underlying128
 a41 := Tryz.isAgg128
 z41 := Tryz.sizeOf128
 v41 := Tryz.zeroValue128
 t44 := Tryz.underlying174
 a44 := Tryz.isAgg174
 z44 := Tryz.sizeOf174
 v44 := Tryz.zeroValue174
 t46 := Tryz.underlying114
 a46 := Tryz.isAgg114
 z46 := Tryz.sizeOf114
 v46 := Tryz.zeroValue114
 t53 := Tryz.underlying196
 a53 := Tryz.isAgg196
 z53 := Tryz.sizeOf196
 v53 := Tryz.zeroValue196
 t57 := Tryz.underlying200
 a57 := Tryz.isAgg200
 z57 := Tryz.sizeOf200
 v57 := Tryz.zeroValue200
 t63 := Tryz.underlying218
 a63 := Tryz.isAgg218
 z63 := Tryz.sizeOf218
 v63 := Tryz.zeroValue218
 t64 := Tryz.underlying47
 a64 := Tryz.isAgg47
 z64 := Tryz.sizeOf47
 v64 := Tryz.zeroValue47 }
open Go.Sort Go.RowKit in
theorem Tryz.slices_Sort_string (blk off cap : Nat) (ss : List (List UInt8)) (w : World) (hH : Holds encStr w blk off ss.toArray) (hblk : blk < w.heap.size) (hsz : ss.length < 4611686018427387904) :
  Calls Tryz.prog 95 #[.slice (some ⟨blk, off, none⟩) ss.length cap] w fun e w' =>
   e = .returned (.tuple #[]) ∧ ∃ n os, w' = grow (putRow encStr (Sort.ahead w n) blk off (ss.mergeSort fun x y => decide (x ≤ y)).toArray) os := AnyM.slices_Sort_string Tryz.laysSlM6_f95 blk off cap ss w hH hblk hsz
end Go.Proofs
namespace Go.Proofs.YtfflbeenkfaemaaGreatDoor.Ext
open Go.RowKit
def isLow (c : UInt8) : Bool := decide (97 ≤ c.toNat) && decide (c.toNat ≤ 122)
def isDig (c : UInt8) : Bool := decide (48 ≤ c.toNat) && decide (c.toNat ≤ 57)
def isSign (c : UInt8) : Bool := isLow c || (isDig c || (c.toNat : Int) == 45)
def allB (p : UInt8 → Bool) (s : ByteArray) : Bool := s.data.toList.all p
theorem take_next (s : ByteArray) (k : Nat) (h : k < s.size) : s.data.toList.take (k + 1) = s.data.toList.take k ++ [s[k]] := by
 rw [List.take_succ_eq_append_getElem (by simpa using h)]; rfl
theorem all_next (p : UInt8 → Bool) (s : ByteArray) (k : Nat) (h : k < s.size) (h1 : (s.data.toList.take k).all p = true) (h2 : p s[k] = true) : (s.data.toList.take (k + 1)).all p = true := by
 rw [take_next s k h, List.all_append, h1]; simp [h2]
theorem all_not (p : UInt8 → Bool) (s : ByteArray) (k : Nat) (h : k < s.size) (h2 : p s[k] = false) : allB p s = false := by
 unfold allB
 rw [List.all_eq_false]
 exact ⟨s[k], by rw [show s[k] = s.data.toList[k]'(by simpa using h) from rfl]; exact List.getElem_mem _, by simp [h2]⟩
theorem all_whole (p : UInt8 → Bool) (s : ByteArray) (k : Nat) (h : ¬ k < s.size) (h1 : (s.data.toList.take k).all p = true) : allB p s = true := by
 unfold allB
 rwa [List.take_of_length_le (by simp; omega)] at h1
theorem lower_any (c : UInt8) (w : World) :
  Calls Tryz.prog 80 #[.int .u8 (c.toNat : Int)] w fun e w' => e = .returned (.bool (isLow c)) ∧ w = w' := by
 by_cases h1 : 97 ≤ c.toNat <;> by_cases h2 : c.toNat ≤ 122
 all_goals
  have z1 : (97 : Int) ≤ (c.toNat : Int) ↔ 97 ≤ c.toNat := by omega
  have z2 : (c.toNat : Int) ≤ 122 ↔ c.toNat ≤ 122 := by omega
  go_enter Tryz.func80, Tryz.ntmps80
  go_wp2
  all_goals first | (exfalso; omega) | (go_ret; exact ⟨by simp [isLow, h1, h2], rfl⟩)
theorem digit_any (c : UInt8) (w : World) :
  Calls Tryz.prog 48 #[.int .u8 (c.toNat : Int)] w fun e w' => e = .returned (.bool (isDig c)) ∧ w = w' := by
 by_cases h1 : 48 ≤ c.toNat <;> by_cases h2 : c.toNat ≤ 57
 all_goals
  have z1 : (48 : Int) ≤ (c.toNat : Int) ↔ 48 ≤ c.toNat := by omega
  have z2 : (c.toNat : Int) ≤ 57 ↔ c.toNat ≤ 57 := by omega
  go_enter Tryz.func48, Tryz.ntmps48
  go_wp2
  all_goals first | (exfalso; omega) | (go_ret; exact ⟨by simp [isDig, h1, h2], rfl⟩)
set_option maxHeartbeats 1000000 in
theorem sign_any (c : UInt8) (w : World) :
  Calls Tryz.prog 113 #[.int .u8 (c.toNat : Int)] w fun e w' => e = .returned (.bool (isSign c)) ∧ w = w' := by
 have l1 := fun w => lower_any c w
 have l2 := fun w => digit_any c w
 cases h1 : isLow c
 ·rw [h1] at l1
  cases h2 : isDig c
  ·rw [h2] at l2
   go_enter Tryz.func113, Tryz.ntmps113
   go_wp2_with fail
   refine (l1 _).mono ?_
   rintro e w' ⟨rfl, rfl⟩
   go_wp2_with fail
   refine (l2 _).mono ?_
   rintro e w' ⟨rfl, rfl⟩
   go_wp2_with fail
   go_ret
   refine ⟨?_, rfl⟩
   simp [isSign, h1, h2]
  ·rw [h2] at l2
   go_enter Tryz.func113, Tryz.ntmps113
   go_wp2_with fail
   refine (l1 _).mono ?_
   rintro e w' ⟨rfl, rfl⟩
   go_wp2_with fail
   refine (l2 _).mono ?_
   rintro e w' ⟨rfl, rfl⟩
   go_wp2_with fail
   go_ret
   refine ⟨?_, rfl⟩
   simp [isSign, h1, h2]
 ·rw [h1] at l1
  go_enter Tryz.func113, Tryz.ntmps113
  go_wp2_with fail
  refine (l1 _).mono ?_
  rintro e w' ⟨rfl, rfl⟩
  go_wp2_with fail
  go_ret
  refine ⟨?_, rfl⟩
  simp [isSign, h1]
set_option maxHeartbeats 1000000 in
theorem all_any (g : Nat) (p : UInt8 → Bool) (eg : ∀ args w, (callFunc g args).run Tryz.prog w = .ok (.enter g args) w)
  (hp : ∀ (c : UInt8) (w : World), Calls Tryz.prog g #[.int .u8 (c.toNat : Int)] w fun e w' => e = .returned (.bool (p c)) ∧ w = w')
  (s : ByteArray) (hs : s.size ≤ 9223372036854775807) (w : World) :
  Calls Tryz.prog 47 #[.string s, .func (.func g) #[] #[]] w fun e w' => e = .returned (.bool (allB p s)) ∧ w = w' := by
 go_enter Tryz.func47, Tryz.ntmps47
 go_wp2
 go_loop [5, 8] (fun _ i => ∃ k : Nat, k ≤ s.size ∧ i = .int .i64 k ∧ Aside ((s.data.toList.take k).all p = true)) (fun _ i => s.size - (intOf i).toNat)
 case atStart => exact ⟨0, Nat.zero_le _, rfl, by simp [Aside]⟩
 case round =>
  obtain ⟨k, hk, rfl, A⟩ := hrel
  by_cases hlt : k < s.size
  ·have hcall := fun w => hp s[k] w
   cases hq : p s[k] with
   | true =>
    have A2 : Aside ((s.data.toList.take (k + 1)).all p = true) := all_next p s k hlt A.out hq
    rw [hq] at hcall
    go_wp2_with fail
    refine (hcall _).mono ?_
    rintro e w' ⟨rfl, rfl⟩
    go_wp2_with fail
    go_round
    case measure => simp [intOf]; omega
    case rel => exact ⟨k + 1, by omega, by go_num, A2⟩
   | false =>
    have A2 : Aside (allB p s = false) := all_not p s k hlt hq
    rw [hq] at hcall
    go_wp2_with fail
    refine (hcall _).mono ?_
    rintro e w' ⟨rfl, rfl⟩
    go_wp2_with fail
    go_ret
    exact ⟨by rw [A2.out]; rfl, rfl⟩
  ·have A2 : Aside (allB p s = true) := all_whole p s k hlt A.out
   go_wp2
   go_ret
   exact ⟨by rw [A2.out]; rfl, rfl⟩
theorem all_lower (s : ByteArray) (hs : s.size ≤ 9223372036854775807) (w : World) : Calls Tryz.prog 47 #[.string s, .func (.func 80) #[] #[]] w fun e w' => e = .returned (.bool (allB isLow s)) ∧ w = w' :=
 all_any _ _ (enters_of Tryz.func80 (by kernel_rfl) rfl) lower_any s hs w
theorem all_digit (s : ByteArray) (hs : s.size ≤ 9223372036854775807) (w : World) : Calls Tryz.prog 47 #[.string s, .func (.func 48) #[] #[]] w fun e w' => e = .returned (.bool (allB isDig s)) ∧ w = w' :=
 all_any _ _ (enters_of Tryz.func48 (by kernel_rfl) rfl) digit_any s hs w
theorem all_sign (s : ByteArray) (hs : s.size ≤ 9223372036854775807) (w : World) : Calls Tryz.prog 47 #[.string s, .func (.func 113) #[] #[]] w fun e w' => e = .returned (.bool (allB isSign s)) ∧ w = w' :=
 all_any _ _ (enters_of Tryz.func113 (by kernel_rfl) rfl) sign_any s hs w
def nameB (s : ByteArray) : Bool := decide (1 ≤ s.size) && (decide (s.size ≤ 16) && allB isSign s)
set_option maxHeartbeats 1000000 in
theorem Name_any (s : ByteArray) (hs : s.size ≤ 9223372036854775807) (w : World) :
  Calls Tryz.prog 78 #[.string s] w fun e w' => e = .returned (.bool (nameB s)) ∧ w = w' := by
 by_cases h1 : 1 ≤ s.size
 ·by_cases h2 : s.size ≤ 16
  ·go_enter Tryz.func78, Tryz.ntmps78
   go_wp2_with fail
   refine (all_sign _ hs _).mono ?_
   rintro e w' ⟨rfl, rfl⟩
   go_wp2_with fail
   go_ret
   exact ⟨by simp [nameB, h1, h2], rfl⟩
  ·go_enter Tryz.func78, Tryz.ntmps78
   go_wp2_with fail
   go_ret
   exact ⟨by simp [nameB, h2], rfl⟩
 ·go_enter Tryz.func78, Tryz.ntmps78
  go_wp2_with fail
  go_ret
  exact ⟨by simp [nameB, h1], rfl⟩
/-- The sign at a place. -/
def sgn (s : ByteArray) (k : Nat) : UInt8 := s.data.toList.getD k 0
theorem sgn_at (s : ByteArray) (k : Nat) (h : k < s.size) : s[k] = sgn s k := by
 unfold sgn
 have h' : k < s.data.toList.length := by simpa using h
 rw [List.getD_eq_getElem?_getD, List.getElem?_eq_getElem h']
 rfl
/-- A sign's value. -/
def valI (c : UInt8) : Int := if isLow c then (c.toNat : Int) - 96 else if isDig c then (c.toNat : Int) - 48 else 0
theorem valI_range (c : UInt8) : 0 ≤ valI c ∧ valI c ≤ 26 := by
 unfold valI isLow isDig
 split
 ·rename_i h; simp at h; omega
 ·split
  ·rename_i h; simp at h; omega
  ·omega
theorem valI_dig (c : UInt8) (h : isDig c = true) : 0 ≤ valI c ∧ valI c ≤ 9 := by
 have h' := h
 unfold isDig at h'
 simp at h'
 unfold valI isLow
 rw [if_neg (by simp; omega), if_pos h]
 omega
theorem value_any (c : UInt8) (h : isLow c = true ∨ isDig c = true) (w : World) :
  Calls Tryz.prog 86 #[.int .u8 (c.toNat : Int)] w fun e w' => e = .returned (.int .i64 (valI c)) ∧ w = w' := by
 have l1 := fun w => lower_any c w
 cases h1 : isLow c
 ·rw [h1] at l1
  have h2 : isDig c = true := by simpa [h1] using h
  have h3 : 48 ≤ c.toNat ∧ c.toNat ≤ 57 := by simpa [isDig] using h2
  obtain ⟨h3, h4⟩ := h3
  have hv : Hid (valI c = (c.toNat : Int) - 48) := by show valI c = _; simp [valI, h1, h2]
  clear h h2
  go_enter Tryz.func86, Tryz.ntmps86
  go_wp2_with fail
  refine (l1 _).mono ?_
  rintro e w' ⟨rfl, rfl⟩
  go_wp2_with fail
  go_ret
  refine ⟨?_, rfl⟩
  rw [hv.out]
  try rfl
  try (simp; try omega)
 ·rw [h1] at l1
  have h3 : 97 ≤ c.toNat ∧ c.toNat ≤ 122 := by simpa [isLow] using h1
  obtain ⟨h3, h4⟩ := h3
  have hv : Hid (valI c = (c.toNat : Int) - 96) := by show valI c = _; simp [valI, h1]
  clear h
  go_enter Tryz.func86, Tryz.ntmps86
  go_wp2_with fail
  refine (l1 _).mono ?_
  rintro e w' ⟨rfl, rfl⟩
  go_wp2_with fail
  go_ret
  refine ⟨?_, rfl⟩
  rw [hv.out]
  try rfl
  try (simp; try omega)
end Go.Proofs.YtfflbeenkfaemaaGreatDoor.Ext
namespace Go.Proofs.YtfflbeenkfaemaaGreatDoor.Ext
open Go.RowKit
def headB (a : ByteArray) : Bool := decide (10 ≤ a.size) && (allB isLow (a.extract 0 4) && allB isDig (a.extract 4 10))
def sumK (a : ByteArray) : Nat → Int
 | 0 => 0
 | k + 1 => sumK a k + valI (sgn a k) * ((k : Int) + 1)
def sumB (a : ByteArray) : Int := if headB a = true then sumK a 10 % 97 else -1
theorem mul_range (v : Int) (k : Nat) (h : 0 ≤ v ∧ v ≤ 26) (hk : k < 10) : 0 ≤ v * ((k : Int) + 1) ∧ v * ((k : Int) + 1) ≤ 260 := by
 have h1 : 0 ≤ v * ((k : Int) + 1) := Int.mul_nonneg h.1 (by omega)
 have h2 : v * ((k : Int) + 1) ≤ 26 * ((k : Int) + 1) := Int.mul_le_mul_of_nonneg_right h.2 (by omega)
 omega
theorem sumK_range (a : ByteArray) (k : Nat) (hk : k ≤ 10) : 0 ≤ sumK a k ∧ sumK a k ≤ 260 * k := by
 induction k with
 | zero => simp [sumK]
 | succ k ih =>
  have h1 := ih (by omega)
  have h2 := mul_range (valI (sgn a k)) k (valI_range _) (by omega)
  simp only [sumK]
  omega
theorem extract_list (a : ByteArray) (i j : Nat) : (a.extract i j).data.toList = (a.data.toList.take j).drop i := by
 simp [ByteArray.data_extract, List.drop_take]
theorem all_at {p : UInt8 → Bool} {a : ByteArray} {i j k : Nat} (h : allB p (a.extract i j) = true) (h0 : i ≤ k) (h1 : k < j) (h2 : k < a.size) : p (sgn a k) = true := by
 unfold allB at h
 rw [extract_list, List.all_eq_true] at h
 have h' : k < a.data.toList.length := by simpa using h2
 have e : sgn a k = a.data.toList[k] := by unfold sgn; rw [List.getD_eq_getElem?_getD, List.getElem?_eq_getElem h']; rfl
 rw [e]
 refine h _ ?_
 rw [List.mem_iff_getElem]
 refine ⟨k - i, by simp; omega, ?_⟩
 rw [List.getElem_drop, List.getElem_take]
 congr 1
 omega
theorem head_at {a : ByteArray} (h : headB a = true) {k : Nat} (hk : k < 10) : isLow (sgn a k) = true ∨ isDig (sgn a k) = true := by
 unfold headB at h
 simp only [Bool.and_eq_true, decide_eq_true_eq] at h
 by_cases h4 : k < 4
 ·exact .inl (all_at h.2.1 (Nat.zero_le _) h4 (by omega))
 ·exact .inr (all_at h.2.2 (by omega) hk (by omega))
set_option maxHeartbeats 2000000 in
theorem Sum_any (s : ByteArray) (hs : s.size ≤ 9223372036854775807) (w : World) :
  Calls Tryz.prog 49 #[.string s] w fun e w' => e = .returned (.int .i64 (sumB s)) ∧ w = w' := by
 by_cases h10 : 10 ≤ s.size
 ·have c1 := fun w => all_lower (s.extract 0 4) (by simp; omega) w
  cases h1 : allB isLow (s.extract 0 4)
  ·have hv : Hid (sumB s = -1) := by show sumB s = -1; simp [sumB, headB, h1]
   rw [h1] at c1
   go_enter Tryz.func49, Tryz.ntmps49
   go_wp2_with fail
   refine (c1 _).mono ?_
   rintro e w' ⟨rfl, rfl⟩
   go_wp2_with fail
   go_ret
   exact ⟨by rw [hv.out]; rfl, rfl⟩
  ·rw [h1] at c1
   have c2 := fun w => all_digit (s.extract 4 10) (by simp; omega) w
   cases h2 : allB isDig (s.extract 4 10)
   ·have hv : Hid (sumB s = -1) := by show sumB s = -1; simp [sumB, headB, h2]
    rw [h2] at c2
    go_enter Tryz.func49, Tryz.ntmps49
    go_wp2_with fail
    refine (c1 _).mono ?_
    rintro e w' ⟨rfl, rfl⟩
    go_wp2_with fail
    refine (c2 _).mono ?_
    rintro e w' ⟨rfl, rfl⟩
    go_wp2_with fail
    go_ret
    exact ⟨by rw [hv.out]; rfl, rfl⟩
   ·rw [h2] at c2
    have hh : Hid (headB s = true) := by show headB s = true; simp [headB, h10, h1, h2]
    have hv : Hid (sumB s = sumK s 10 % 97) := by show sumB s = _; simp [sumB, hh.out]
    clear h1 h2
    go_enter Tryz.func49, Tryz.ntmps49
    go_wp2_with fail
    refine (c1 _).mono ?_
    rintro e w' ⟨rfl, rfl⟩
    go_wp2_with fail
    refine (c2 _).mono ?_
    rintro e w' ⟨rfl, rfl⟩
    go_wp2_with fail
    go_loop [3, 4, 20] (fun t _ c => ∃ k : Nat, k ≤ 10 ∧ c = .int .i64 k ∧ t = .int .i64 (sumK s k)) (fun _ _ c => 10 - (intOf c).toNat)
    case atStart => exact ⟨0, by omega, rfl, rfl⟩
    case round =>
     obtain ⟨k, hk, rfl, rfl⟩ := hrel
     have hr := sumK_range s k hk
     obtain ⟨hr1, hr2⟩ := hr
     by_cases hlt : k < 10
     ·have hks : k < s.size := by omega
      have hm := mul_range (valI (sgn s k)) k (valI_range _) hlt
      obtain ⟨hm1, hm2⟩ := hm
      have hc := fun w => value_any (sgn s k) (head_at hh.out hlt) w
      have hat := Lib.hid (sgn_at s k hks)
      have hsk : Hid (sumK s (k + 1) = sumK s k + valI (sgn s k) * ((k : Int) + 1)) := rfl
      generalize hvg : valI (sgn s k) = v at *
      clear hvg
      go_wp2_with fail
      rw [hat.out]
      refine (hc _).mono ?_
      rintro e w' ⟨rfl, rfl⟩
      go_wp2_with fail
      go_round
      case measure => simp [intOf]; omega
      case rel => exact ⟨k + 1, by omega, by go_num, by rw [hsk.out]⟩
     ·have : k = 10 := by omega
      subst this
      go_wp2_with fail
      go_ret
      exact ⟨by rw [hv.out]; try rfl, rfl⟩
 ·have hv : Hid (sumB s = -1) := by show sumB s = -1; simp [sumB, headB, h10]
  go_enter Tryz.func49, Tryz.ntmps49
  go_wp2_with fail
  go_ret
  exact ⟨by rw [hv.out]; rfl, rfl⟩
end Go.Proofs.YtfflbeenkfaemaaGreatDoor.Ext
namespace Go.Proofs.YtfflbeenkfaemaaGreatDoor.Ext
open Go.RowKit
/-- The table of powers of ten lies in memory, here and in every later world. -/
def TB (w : World) : Prop := ∀ W, Below w.heap.size w W → Lib.TabIs Tryz.prog W "internal/strconv.uint64pow10" .u64 Lib.pow10Tab
theorem TB.below {w w' : World} (h : TB w) (hb : Below w.heap.size w w') : TB w' := fun W hW => h W (hb.trans (hW.mono hb.size))
theorem TB.here {w : World} (h : TB w) : Lib.TabIs Tryz.prog w "internal/strconv.uint64pow10" .u64 Lib.pow10Tab := h w (Below.refl _ _)
def numK (a : ByteArray) : Nat → Int
 | 0 => 0
 | k + 1 => numK a k * 10 + valI (sgn a k)
theorem all_sgn {p : UInt8 → Bool} {a : ByteArray} (h : allB p a = true) {k : Nat} (hk : k < a.size) : p (sgn a k) = true := by
 unfold allB at h
 rw [List.all_eq_true] at h
 have h' : k < a.data.toList.length := by simpa using hk
 have e : sgn a k = a.data.toList[k] := by unfold sgn; rw [List.getD_eq_getElem?_getD, List.getElem?_eq_getElem h']; rfl
 rw [e]
 exact h _ (List.getElem_mem _)
theorem numK_range (a : ByteArray) (h : allB isDig a = true) (k : Nat) (hk : k ≤ a.size) : 0 ≤ numK a k ∧ numK a k + 1 ≤ ((10 ^ k : Nat) : Int) := by
 induction k with
 | zero => simp [numK]
 | succ k ih =>
  have h1 := ih (by omega)
  have h2 := valI_dig (sgn a k) (all_sgn h (by omega))
  have h3 : (10 ^ (k + 1) : Nat) = 10 ^ k * 10 := Nat.pow_succ ..
  simp only [numK]
  omega
theorem numK_small (a : ByteArray) (h : allB isDig a = true) (hs : a.size ≤ 6) (k : Nat) (hk : k ≤ a.size) : 0 ≤ numK a k ∧ numK a k ≤ 999999 := by
 have h1 := numK_range a h k hk
 have h2 : 10 ^ k ≤ 10 ^ 6 := Nat.pow_le_pow_right (by omega) (by omega)
 omega
set_option maxHeartbeats 1000000 in
theorem number_any (s : ByteArray) (hs : s.size ≤ 6) (hd : allB isDig s = true) (w : World) :
  Calls Tryz.prog 50 #[.string s] w fun e w' => e = .returned (.int .i64 (numK s s.size)) ∧ w = w' := by
 have HD := Lib.hid hd
 clear hd
 go_enter Tryz.func50, Tryz.ntmps50
 go_wp2_with fail
 go_loop [3, 4, 7] (fun t _ c => ∃ k : Nat, k ≤ s.size ∧ c = .int .i64 k ∧ t = .int .i64 (numK s k)) (fun _ _ c => s.size - (intOf c).toNat)
 case atStart => exact ⟨0, by omega, rfl, rfl⟩
 case round =>
  obtain ⟨k, hk, rfl, rfl⟩ := hrel
  have hr := numK_small s HD.out hs k hk
  obtain ⟨hr1, hr2⟩ := hr
  by_cases hlt : k < s.size
  ·have hm := valI_range (sgn s k)
   obtain ⟨hm1, hm2⟩ := hm
   have hc := fun w => value_any (sgn s k) (.inr (all_sgn HD.out hlt)) w
   have hat := Lib.hid (sgn_at s k hlt)
   have hsk : Hid (numK s (k + 1) = numK s k * 10 + valI (sgn s k)) := rfl
   generalize hvg : valI (sgn s k) = v at *
   clear hvg
   go_wp2_with fail
   rw [hat.out]
   refine (hc _).mono ?_
   rintro e w' ⟨rfl, rfl⟩
   go_wp2_with fail
   go_round
   case measure => simp [intOf]; omega
   case rel => exact ⟨k + 1, by omega, by go_num, by rw [hsk.out]⟩
  ·have : k = s.size := by omega
   subst this
   go_wp2_with fail
   go_ret
   exact ⟨rfl, rfl⟩
def rightB (s : ByteArray) : Bool := decide (s.size = 12) && (allB isDig (s.extract 10 12) && decide (sumB s = numK (s.extract 10 12) 2))
set_option maxHeartbeats 2000000 in
theorem Right_any (s : ByteArray) (hs : s.size ≤ 9223372036854775807) (w : World) :
  Calls Tryz.prog 18 #[.string s] w fun e w' => e = .returned (.bool (rightB s)) ∧ ∃ n, w' = w.drewN n := by
 by_cases h12 : s.size = 12
 ·have hz : Hid ((s.extract 10 12).size = 2) := by show (s.extract 10 12).size = 2; simp [h12]
  have c1 := fun w => all_digit (s.extract 10 12) (by rw [hz.out]; omega) w
  have hb : ((s.size : Int) == 12) = true := by simp [h12]
  have h12' := Lib.hid h12
  clear h12
  have hle : 10 ≤ s.size := by rw [h12'.out]; omega
  have hex : Hid (s.extract 10 s.size = s.extract 10 12) := by show _ = _; rw [h12'.out]
  cases h1 : allB isDig (s.extract 10 12)
  ·rw [h1] at c1
   have hv : Hid (rightB s = false) := by show rightB s = false; simp [rightB, h1]
   go_enter Tryz.func18, Tryz.ntmps18
   go_wp2_with fail
   go_quiet ((go_at_call 47; rw [hex.out]; exact Calls.quiet_of_same ((c1 _).mono fun _ _ ⟨a, b⟩ => ⟨a, b.symm⟩)))
   go_wp2_with fail
   go_ret
   exact ⟨by rw [hv.out]; rfl, _, rfl⟩
  ·rw [h1] at c1
   have c2 := fun w => Sum_any s hs w
   have c3 := fun w => number_any (s.extract 10 12) (by rw [hz.out]; omega) h1 w
   rw [hz.out] at c3
   have hv : Hid (rightB s = (sumB s == numK (s.extract 10 12) 2)) := by
    show _ = _
    simp [rightB, h1, h12'.out]
    by_cases e : sumB s = numK (s.extract 10 12) 2 <;> simp [e]
   go_enter Tryz.func18, Tryz.ntmps18
   go_wp2_with fail
   go_quiet (first | (go_at_call 47; rw [hex.out]; exact Calls.quiet_of_same ((c1 _).mono fun _ _ ⟨a, b⟩ => ⟨a, b.symm⟩)) | (go_at_call 49; exact Calls.quiet_of_same ((c2 _).mono fun _ _ ⟨a, b⟩ => ⟨a, b.symm⟩)) | (go_at_call 50; rw [hex.out]; exact Calls.quiet_of_same ((c3 _).mono fun _ _ ⟨a, b⟩ => ⟨a, b.symm⟩)))
   go_wp2_with fail
   go_ret
   exact ⟨by rw [hv.out]; rfl, _, rfl⟩
 ·have hb : ((s.size : Int) == 12) = false := by rw [beq_eq_false_iff_ne]; omega
  have hv : Hid (rightB s = false) := by show rightB s = false; simp [rightB, h12]
  go_enter Tryz.func18, Tryz.ntmps18
  go_wp2_with fail
  go_quiet (fail)
  go_wp2_with fail
  go_ret
  exact ⟨by rw [hv.out]; rfl, _, rfl⟩
end Go.Proofs.YtfflbeenkfaemaaGreatDoor.Ext
namespace Go.Proofs.YtfflbeenkfaemaaGreatDoor.Ext
open Go.RowKit
def padL (n : Int) (w : Nat) : List UInt8 := List.replicate (w - (Lib.itoa n).length) 48 ++ Lib.itoa n
def padB (n : Int) (w : Nat) : ByteArray := ⟨(padL n w).toArray⟩
theorem repeat_one (c : Nat) : Lib.repeatL [48] c = List.replicate c 48 := by
 induction c with
 | zero => rfl
 | succ c ih => simp [Lib.repeatL, ih, List.replicate_succ]
theorem itoa_any (n : Int) (h0 : 0 ≤ n) (h1 : n ≤ 999999) (w : World) (hT : TB w) :
  Calls Tryz.prog 99 #[.int .i64 n] w fun e w' => e = .returned (.string ⟨(Lib.itoa n).toArray⟩) ∧ Below w.heap.size w w' :=
 (Tryz.strconv_Itoa n (by omega) (by omega) w hT.here).mono fun _ _ ⟨he, k, os, hw⟩ => ⟨he, hw ▸ Lib.below_grow _ w (Nat.le_refl _) k os⟩
def zerosB (c : Int) : ByteArray := ⟨(List.replicate c.toNat 48).toArray⟩
theorem zerosB_size (c : Int) : (zerosB c).size = c.toNat := by simp [zerosB, ByteArray.size]
theorem repeat_any (c : Int) (h0 : 0 ≤ c) (h1 : c ≤ 6) (w : World) :
  Calls Tryz.prog 114 #[.string ⟨#[48]⟩, .int .i64 c] w fun e w' => e = .returned (.string (zerosB c)) ∧ Below w.heap.size w w' := by
 obtain ⟨m, rfl⟩ := Int.eq_ofNat_of_zero_le h0
 have hs : ByteArray.size ⟨#[48]⟩ = 1 := rfl
 have h := Tryz.strings_Repeat ⟨#[48]⟩ m w (by omega) (by rw [hs]; omega)
 rw [show (⟨#[48]⟩ : ByteArray).data.toList = [48] from rfl, repeat_one] at h
 exact h
set_option maxHeartbeats 2000000 in
theorem padded_any (n : Int) (h0 : 0 ≤ n) (h1 : n ≤ 999999) (m : Nat) (hm : m ≤ 6) (hl : (Lib.itoa n).length ≤ m) (w : World) (hT : TB w) :
  Calls Tryz.prog 81 #[.int .i64 n, .int .i64 m] w fun e w' => e = .returned (.string (padB n m)) ∧ Below w.heap.size w w' := by
 have c1 := itoa_any n h0 h1
 have hp : Hid (padB n m = zerosB ((m : Int) - ((Lib.itoa n).length : Int)) ++ ⟨(Lib.itoa n).toArray⟩) := by
  show padB n m = _
  unfold zerosB
  rw [show ((m : Int) - ((Lib.itoa n).length : Int)).toNat = m - (Lib.itoa n).length by omega]
  simp [padB, padL, ByteArray.ext_iff]
 generalize hg : Lib.itoa n = l at *
 clear hg
 go_enter Tryz.func81, Tryz.ntmps81
 go_wp2_with fail
 refine (c1 _ hT).mono ?_
 rintro e w1 ⟨rfl, hb1⟩
 go_wp2_with fail
 refine (repeat_any _ (by omega) (by omega) _).mono ?_
 rintro e w2 ⟨rfl, hb2⟩
 have hsz : (zerosB ((m : Int) - (l.length : Int))).size + l.length ≤ 9223372036854775807 := by
  rw [zerosB_size]; omega
 go_wp2_with fail
 go_ret
 exact ⟨by rw [hp.out]; rfl, hb1.trans (hb2.mono hb1.size)⟩
theorem nDigits_le (k : Nat) : ∀ u, u < 10 ^ (k + 1) → Lib.nDigits u ≤ k + 1 := by
 induction k with
 | zero => intro u h; rw [Lib.nDigits_small (by omega)]; omega
 | succ k ih =>
  intro u h
  by_cases hu : u < 10
  ·rw [Lib.nDigits_small hu]; omega
  ·rw [Lib.nDigits_big hu]
   have : u / 10 < 10 ^ (k + 1) := by
    rw [Nat.pow_succ] at h
    omega
   have := ih _ this
   omega
theorem itoa_len (n : Int) (h0 : 0 ≤ n) (k : Nat) (h : n < ((10 ^ (k + 1) : Nat) : Int)) : (Lib.itoa n).length ≤ k + 1 := by
 obtain ⟨u, rfl⟩ := Int.eq_ofNat_of_zero_le h0
 rw [Lib.itoa_nonneg, Lib.decDigits_length]
 exact nDigits_le k u (by omega)
theorem dig_of (d : Nat) (h : d < 10) : isDig (UInt8.ofNat (48 + d)) = true := by
 unfold isDig
 have : (UInt8.ofNat (48 + d)).toNat = 48 + d := by rw [UInt8.toNat_ofNat']; omega
 rw [this]; simp; omega
theorem dec_digs (u : Nat) : (Lib.decDigits u).all isDig = true := by
 induction u using Nat.strongRecOn with
 | _ u ih =>
  rw [Lib.decDigits]
  split
  ·rename_i h; rw [List.all_cons, dig_of u h]; rfl
  ·rename_i h
   rw [List.all_append, ih (u / 10) (by omega), List.all_cons, dig_of (u % 10) (by omega)]; rfl
theorem pad_digs (n : Int) (h0 : 0 ≤ n) (w : Nat) : allB isDig (padB n w) = true := by
 obtain ⟨u, rfl⟩ := Int.eq_ofNat_of_zero_le h0
 unfold allB padB padL
 rw [Lib.itoa_nonneg]
 simp only [List.all_append, dec_digs, Bool.and_true]
 rw [List.all_eq_true]
 intro x hx
 rw [List.eq_of_mem_replicate hx]
 decide
theorem pad_size (n : Int) (w : Nat) (h : (Lib.itoa n).length ≤ w) : (padB n w).size = w := by
 simp [padB, padL, ByteArray.size]; omega
def makeS (owner : ByteArray) (n : Int) : ByteArray := owner ++ padB n 6
def makeB (owner : ByteArray) (n : Int) : ByteArray := makeS owner n ++ padB (sumB (makeS owner n)) 2
theorem append_list (a b : ByteArray) : (a ++ b).data.toList = a.data.toList ++ b.data.toList := by
 rw [ByteArray.data_append, Array.toList_append]
theorem bytes_ext {a b : ByteArray} (h : a.data.toList = b.data.toList) : a = b := ByteArray.ext (Array.toList_inj.1 h)
theorem size_list (a : ByteArray) : a.data.toList.length = a.size := rfl
theorem extract_left (a b : ByteArray) (k : Nat) (h : k = a.size) : (a ++ b).extract 0 k = a := by
 apply bytes_ext
 rw [extract_list, append_list, List.drop_zero, h, ← size_list, List.take_left']
 rfl
theorem extract_right (a b : ByteArray) (k m : Nat) (h : k = a.size) (hm : m = a.size + b.size) : (a ++ b).extract k m = b := by
 apply bytes_ext
 rw [extract_list, append_list, List.take_of_length_le (by rw [List.length_append, size_list, size_list]; omega), h, ← size_list, List.drop_left']
 rfl
theorem makeS_head (owner : ByteArray) (n : Int) (h4 : owner.size = 4) (hl : allB isLow owner = true) (h0 : 0 ≤ n) (h1 : n ≤ 999999) : headB (makeS owner n) = true := by
 have hp := pad_size n 6 (itoa_len n h0 5 (by omega))
 have hs : (makeS owner n).size = 10 := by simp [makeS, h4, hp]
 unfold headB
 rw [hs]
 unfold makeS
 rw [extract_left _ _ 4 h4.symm, hl, extract_right _ _ 4 10 h4.symm (by omega), pad_digs n h0]
 rfl
theorem sumB_range (a : ByteArray) (h : headB a = true) : 0 ≤ sumB a ∧ sumB a ≤ 96 := by
 unfold sumB
 rw [if_pos h]
 omega
set_option maxHeartbeats 4000000 in
theorem Make_any (owner : ByteArray) (n : Int) (hs : owner.size ≤ 9223372036854775807) (w : World) (hT : TB w) :
  Calls Tryz.prog 42 #[.string owner, .int .i64 n] w fun e w' =>
   e = .returned (.tuple (if owner.size = 4 ∧ allB isLow owner = true then (if 0 ≤ n ∧ n ≤ 999999 then #[.string (makeB owner n), .int .i64 0] else #[.string ⟨#[]⟩, .int .i64 3]) else #[.string ⟨#[]⟩, .int .i64 1])) ∧ Below w.heap.size w w' := by
 by_cases h4 : owner.size = 4
 ·have c1 := fun w => all_lower owner hs w
  have b4 : ((owner.size : Int) != 4) = false := by simp [h4]
  cases hl : allB isLow owner
  ·rw [hl] at c1
   rw [if_neg (by simp)]
   clear h4
   go_enter Tryz.func42, Tryz.ntmps42
   go_wp2_with fail
   refine (c1 _).mono ?_
   rintro e w' ⟨rfl, rfl⟩
   go_wp2_with fail
   go_ret2
   exact ⟨rfl, Below.refl _ _⟩
  ·rw [hl] at c1
   rw [if_pos ⟨h4, rfl⟩]
   by_cases h0 : 0 ≤ n
   ·by_cases h1 : n ≤ 999999
    ·rw [if_pos ⟨h0, h1⟩]
     have hh := makeS_head owner n h4 hl h0 h1
     obtain ⟨r0, r1⟩ := sumB_range _ hh
     have hp6 := pad_size n 6 (itoa_len n h0 5 (by omega))
     have hms : (makeS owner n).size = 10 := by simp [makeS, h4, hp6]
     have c2 := padded_any n h0 h1 6 (by omega) (itoa_len n h0 5 (by omega))
     have c3 := fun w => Sum_any (makeS owner n) (by omega) w
     have c4 := padded_any (sumB (makeS owner n)) r0 (by omega) 2 (by omega) (itoa_len _ r0 1 (by omega))
     have hp2 := pad_size (sumB (makeS owner n)) 2 (itoa_len _ r0 1 (by omega))
     have l6 : owner.size + (padB n 6).size ≤ 9223372036854775807 := by omega
     have hM : Hid (makeB owner n = makeS owner n ++ padB (sumB (makeS owner n)) 2) := rfl
     have hS : Hid (owner ++ padB n 6 = makeS owner n) := rfl
     generalize makeB owner n = MB at *
     have l2 : (makeS owner n).size + (padB (sumB (makeS owner n)) 2).size ≤ 9223372036854775807 := by omega
     generalize hg1 : padB (sumB (makeS owner n)) 2 = P2 at *
     generalize hg2 : sumB (makeS owner n) = SM at *
     generalize hg3 : padB n 6 = P6 at *
     clear hp6 hms hp2 h4 hg1 hg2 hg3 hh
     go_enter Tryz.func42, Tryz.ntmps42
     go_wp2_with fail
     refine (c1 _).mono ?_
     rintro e w' ⟨rfl, rfl⟩
     go_wp2_with fail
     refine (c2 _ hT).mono ?_
     rintro e w1 ⟨rfl, hb1⟩
     go_wp2_with fail
     rw [hS.out]
     refine (c3 _).mono ?_
     rintro e w' ⟨rfl, rfl⟩
     go_wp2_with fail
     refine (c4 _ (hT.below hb1)).mono ?_
     rintro e w2 ⟨rfl, hb2⟩
     go_wp2_with fail
     go_ret2
     exact ⟨by rw [hM.out]; rfl, hb1.trans (hb2.mono hb1.size)⟩
    ·rw [if_neg (by omega)]
     have h1' : 1000000 ≤ n := by omega
     go_enter Tryz.func42, Tryz.ntmps42
     go_wp2_with fail
     refine (c1 _).mono ?_
     rintro e w' ⟨rfl, rfl⟩
     go_wp2_with fail
     go_ret2
     exact ⟨rfl, Below.refl _ _⟩
   ·rw [if_neg (by omega)]
    have h0' : n < 0 := by omega
    go_enter Tryz.func42, Tryz.ntmps42
    go_wp2_with fail
    refine (c1 _).mono ?_
    rintro e w' ⟨rfl, rfl⟩
    go_wp2_with fail
    go_ret2
    exact ⟨rfl, Below.refl _ _⟩
 ·rw [if_neg (by simp [h4])]
  have b4 : ((owner.size : Int) != 4) = true := by rw [bne_iff_ne]; omega
  go_enter Tryz.func42, Tryz.ntmps42
  go_wp2_with fail
  go_ret2
  exact ⟨rfl, Below.refl _ _⟩
end Go.Proofs.YtfflbeenkfaemaaGreatDoor.Ext
namespace Go.Proofs.YtfflbeenkfaemaaGreatDoor.Ext
open Go.RowKit Go.Proofs.YtfflbeenkfaemaaGreatDoorW.PrintWords
theorem drawn_refl {P : Program} {f : FuncId} {args : Array Value} {w : World} {v : Value} (h : Calls P f args w fun e w' => e = .returned v ∧ w = w') :
  Calls P f args w fun e w' => e = .returned v ∧ Drawn0 w w' := h.mono fun _ _ ⟨he, hw⟩ => ⟨he, hw ▸ Drawn0.refl _⟩
def mark_Name.f (a0 : ByteArray) : Option Bool := if a0.size ≤ 9223372036854775807 then some (nameB a0) else none
theorem mark_Name.calls (a0 : ByteArray) (r : Bool) (w : World) (h : mark_Name.f a0 = some r) :
  Calls Tryz.prog 78 #[.string a0] w fun e w' => e = .returned (.bool r) ∧ Drawn0 w w' := by
 unfold mark_Name.f at h
 split at h
 ·rename_i hs; cases h; exact drawn_refl (Name_any a0 hs w)
 ·cases h
def mark_Sum.f (a0 : ByteArray) : Option Int := if a0.size ≤ 9223372036854775807 then some (sumB a0) else none
theorem mark_Sum.calls (a0 : ByteArray) (r : Int) (w : World) (h : mark_Sum.f a0 = some r) :
  Calls Tryz.prog 49 #[.string a0] w fun e w' => e = .returned (.int .i64 r) ∧ Drawn0 w w' := by
 unfold mark_Sum.f at h
 split at h
 ·rename_i hs; cases h; exact drawn_refl (Sum_any a0 hs w)
 ·cases h
def mark_Right.f (a0 : ByteArray) : Option Bool := if a0.size ≤ 9223372036854775807 then some (rightB a0) else none
theorem mark_Right.calls (a0 : ByteArray) (r : Bool) (w : World) (h : mark_Right.f a0 = some r) :
  Calls Tryz.prog 18 #[.string a0] w fun e w' => e = .returned (.bool r) ∧ Drawn0 w w' := by
 unfold mark_Right.f at h
 split at h
 ·rename_i hs; cases h; exact (Right_any a0 hs w).mono fun _ _ ⟨he, hw⟩ => ⟨he, ⟨hw⟩⟩
 ·cases h
def mark_Make.f (a0 : ByteArray) (a1 : Int) : Option (ByteArray × Int) :=
 if a0.size ≤ 9223372036854775807 then some (if a0.size = 4 ∧ allB isLow a0 = true then (if 0 ≤ a1 ∧ a1 ≤ 999999 then (makeB a0 a1, 0) else (⟨#[]⟩, 3)) else (⟨#[]⟩, 1)) else none
theorem mark_Make.calls (a0 : ByteArray) (a1 : Int) (r1 : ByteArray) (r2 : Int) (w : World) (h : mark_Make.f a0 a1 = some (r1, r2)) (HT : TB w) :
  Calls Tryz.prog 42 #[.string a0, .int .i64 a1] w fun e w' => e = .returned (.tuple #[.string r1, .int .i64 r2]) ∧ Below w.heap.size w w' := by
 unfold mark_Make.f at h
 split at h
 ·rename_i hs
  have hm := Make_any a0 a1 hs w HT
  split at h
  ·rename_i h4
   rw [if_pos h4] at hm
   split at h
   ·rename_i h5; cases h; rw [if_pos h5] at hm; exact hm
   ·rename_i h5; cases h; rw [if_neg h5] at hm; exact hm
  ·rename_i h4; cases h; rw [if_neg h4] at hm; exact hm
 ·cases h
end Go.Proofs.YtfflbeenkfaemaaGreatDoor.Ext
namespace Go.Proofs.YtfflbeenkfaemaaGreatDoor.Ext
open Go.RowKit Go.Maps Go.WideMaps Go.ChangeMaps Go.Proofs.YtfflbeenkfaemaaGreatDoorW.PrintWords Go.Proofs.YtfflbeenkfaemaaGreatDoorW.PrintLast
def goodV (g : X.S30) : Value := .agg #[.string g.f0, .int .i64 g.f1, .int .i64 g.f2, .int .i64 g.f3]
def goodD (g : X.S30) : DataW Unit := .agg [.lit (.string g.f0.data.toList), .lit (.int .i64 g.f1), .lit (.int .i64 g.f2), .lit (.int .i64 g.f3)]
def goodR : Value → Option (DataW Unit × List MemPlace)
 | .agg ⟨[.string s, .int .i64 a, .int .i64 b, .int .i64 c]⟩ => some (goodD ⟨s, a, b, c⟩, [])
 | _ => none
theorem goodR_mk (g : X.S30) : goodR (goodV g) = some (goodD g, []) := rfl
theorem bytes_inj {a b : ByteArray} (h : a.data.toList = b.data.toList) : a = b := ByteArray.ext (Array.toList_inj.1 h)
theorem goodD_inj {g h : X.S30} (e : goodD g = goodD h) : g = h := by
 obtain ⟨g0, g1, g2, g3⟩ := g
 obtain ⟨h0, h1, h2, h3⟩ := h
 simp only [goodD, DataW.agg.injEq, List.cons.injEq, DataW.lit.injEq, Lit.string.injEq, Lit.int.injEq, true_and, and_true] at e
 obtain ⟨e0, rfl, rfl, rfl⟩ := e
 rw [bytes_inj e0]
theorem goodR_inv {v : Value} {g : X.S30} {ps : List MemPlace} (h : goodR v = some (goodD g, ps)) : v = goodV g := by
 unfold goodR at h
 split at h
 ·simp only [Option.some.injEq, Prod.mk.injEq] at h
  rw [← goodD_inj h.1]
  rfl
 ·cases h
def zeroG : X.S30 := ⟨⟨#[]⟩, 0, 0, 0⟩
def findG (gs : List X.S30) (c : ByteArray) : Option X.S30 := gs.find? fun g => decide (g.f0 = c)
def getG (gs : List X.S30) (c : ByteArray) : X.S30 := (findG gs c).getD zeroG
def hasG (gs : List X.S30) (c : ByteArray) : Bool := (findG gs c).isSome
/-- Block m is the map of the goods gs. -/
def MapIn (w : World) (m : Nat) (gs : List X.S30) : Prop :=
 ∃ n D, n ≤ gs.length ∧ w.ownsMap Tryz.prog 9 goodR m n D ∧ ∀ c, D.atKey (keyL c) (goodD zeroG) = goodD (getG gs c) ∧ Maps.has D (keyL c) = hasG gs c
theorem MapIn.below {w w' : World} {m : Nat} {gs : List X.S30} (h : MapIn w m gs) (hb : Below w.heap.size w w') : MapIn w' m gs := by
 obtain ⟨n, D, hn, ho, hk⟩ := h
 exact ⟨n, D, hn, own_below ho hb, hk⟩
theorem MapIn.lt {w : World} {m : Nat} {gs : List X.S30} (h : MapIn w m gs) : m < w.heap.size := by
 obtain ⟨n, D, hn, ho, hk⟩ := h
 exact ho.lt
theorem zeroGood (w : World) : (zeroValue 30).run Tryz.prog w = .ok (goodV zeroG) w := by kernel_rfl
theorem MapIn.look {w : World} {m : Nat} {gs : List X.S30} (h : MapIn w m gs) (c : ByteArray) (hc : c.size ≤ 9223372036854775807) :
  (Instr.lookup 80 (.map (some m)) (.string c) false).run Tryz.prog w = .ok (goodV (getG gs c)) w := by
 obtain ⟨n, D, hn, ho, hk⟩ := h
 obtain ⟨v, ps, hrun, hv⟩ := ho.lookup lawS Tryz.underlying80 (zeroGood w) (goodR_mk zeroG) (keyOf_bytes c hc)
 rw [(hk c).1] at hv
 rw [hrun, goodR_inv hv]
theorem MapIn.look_ok {w : World} {m : Nat} {gs : List X.S30} (h : MapIn w m gs) (c : ByteArray) (hc : c.size ≤ 9223372036854775807) :
  (Instr.lookup 80 (.map (some m)) (.string c) true).run Tryz.prog w = .ok (.tuple #[goodV (getG gs c), .bool (hasG gs c)]) w := by
 obtain ⟨n, D, hn, ho, hk⟩ := h
 obtain ⟨v, ps, hrun, hv⟩ := ho.look_ok lawS Tryz.underlying80 (zeroGood w) (goodR_mk zeroG) (keyOf_bytes c hc)
 rw [(hk c).1] at hv
 rw [hrun, goodR_inv hv, (hk c).2]
theorem MapIn.made (w : World) : MapIn (w.alloc (.map #[] 0)) w.heap.size [] := by
 refine ⟨0, .map [], Nat.le_refl _, World.ownsMap_made _ _ _ _, fun c => ⟨rfl, rfl⟩⟩
theorem findG_snoc (gs : List X.S30) (g : X.S30) (c : ByteArray) : findG (gs ++ [g]) c = (findG gs c).or (if g.f0 = c then some g else none) := by
 unfold findG
 rw [List.find?_append]
 congr 1
 by_cases h : g.f0 = c
 ·simp [h]
 ·simp [h]
/-- A good of a new code is stored. -/
theorem MapIn.put {w : World} {m : Nat} {gs : List X.S30} (h : MapIn w m gs) (g : X.S30) (hc : g.f0.size ≤ 9223372036854775807) (hl : gs.length ≤ 1000000000) (hno : hasG gs g.f0 = false) :
  ∃ w', (Instr.mapUpdate 80 (.map (some m)) (.string g.f0) (goodV g)).run Tryz.prog w = .ok () w' ∧ MapIn w' m (gs ++ [g]) ∧ w.grownBy w' (some m) := by
 obtain ⟨n, D, hn, ho, hk⟩ := h
 obtain ⟨w', hrun, ho', hg⟩ := ho.update lawS Tryz.underlying80 (by unfold maxLen; omega) (keyOf_bytes g.f0 hc) (goodR_mk g)
 refine ⟨w', hrun, ⟨n + 1, _, by simpa using hn, ho', fun c => ?_⟩, hg⟩
 have hf : findG gs g.f0 = none := by simpa [hasG] using hno
 by_cases e : g.f0 = c
 ·subst e
  rw [Maps.atKey_put_same ho.isMap (by exact trivial), Maps.has_put_same ho.isMap (by exact trivial)]
  unfold getG hasG
  rw [findG_snoc, hf]
  simp
 ·have hne : keyL c ≠ keyL g.f0 := fun h => e (by
   have h2 := congrArg (fun x : Lit => match x with | .string s => s | _ => []) h
   exact (bytes_inj h2).symm)
  rw [Maps.atKey_put_other hne, Maps.has_put_other hne, (hk c).1, (hk c).2]
  unfold getG hasG
  rw [findG_snoc, if_neg e]
  simp
/-- Block t is a table of the goods gs. -/
def TabIn (w : World) (t : Nat) (gs : List X.S30) : Prop := ∃ m, w.heap[t]? = some (.cells #[.map (some m)] 82 (0, 0)) ∧ MapIn w m gs
theorem TabIn.below {w w' : World} {t : Nat} {gs : List X.S30} (h : TabIn w t gs) (hb : Below w.heap.size w w') : TabIn w' t gs := by
 obtain ⟨m, ht, hm⟩ := h
 exact ⟨m, blk_below ht hb, hm.below hb⟩
theorem TabIn.lt {w : World} {t : Nat} {gs : List X.S30} (h : TabIn w t gs) : t < w.heap.size := by
 obtain ⟨m, ht, hm⟩ := h
 exact blk_lt ht
end Go.Proofs.YtfflbeenkfaemaaGreatDoor.Ext
namespace Go.Proofs.YtfflbeenkfaemaaGreatDoor.Ext
open Go.RowKit Go.Proofs.YtfflbeenkfaemaaGreatDoorW.PrintWords Go.Proofs.YtfflbeenkfaemaaGreatDoorW.PrintLast
def cntB (n : Int) : Bool := decide (1 ≤ n) && decide (n ≤ 1048576)
theorem count_any (n : Int) (w : World) : Calls Tryz.prog 79 #[.int .i64 n] w fun e w' => e = .returned (.bool (cntB n)) ∧ w = w' := by
 by_cases h1 : 1 ≤ n <;> by_cases h2 : n ≤ 1048576
 all_goals
  go_enter Tryz.func79, Tryz.ntmps79
  go_wp2
  go_ret
  exact ⟨by simp [cntB, h1, h2], rfl⟩
def lotV (x : X.S55) : Value := .agg #[.string x.f0, .int .i64 x.f1]
def badB (x : X.S55) : Bool := !nameB x.f0 || !cntB x.f1
set_option maxHeartbeats 1000000 in
theorem bad_any (x : X.S55) (hs : x.f0.size ≤ 9223372036854775807) (w : World) :
  Calls Tryz.prog 88 #[lotV x] w fun e w' => e = .returned (.bool (badB x)) ∧ Below w.heap.size w w' := by
 obtain ⟨s, n⟩ := x
 simp only at hs
 unfold lotV
 have l1 := fun w => Name_any s hs w
 have l2 := fun w => count_any n w
 cases h1 : nameB s
 ·rw [h1] at l1
  go_enter Tryz.func88, Tryz.ntmps88
  go_wp2_with fail
  refine (l1 _).mono ?_
  rintro e w' ⟨rfl, rfl⟩
  go_wp2_with fail
  go_ret
  exact ⟨by simp [badB, h1], below_alloc (Below.refl _ _) _⟩
 ·rw [h1] at l1
  cases h2 : cntB n
  all_goals
   rw [h2] at l2
   go_enter Tryz.func88, Tryz.ntmps88
   go_wp2_with fail
   refine (l1 _).mono ?_
   rintro e w' ⟨rfl, rfl⟩
   go_wp2_with fail
   refine (l2 _).mono ?_
   rintro e w' ⟨rfl, rfl⟩
   go_wp2_with fail
   go_ret
   exact ⟨by simp [badB, h1, h2], below_alloc (Below.refl _ _) _⟩
theorem MapIn.drewN {w : World} {m : Nat} {gs : List X.S30} (h : MapIn w m gs) (n : Nat) : MapIn (w.drewN n) m gs := h.below (pw_below_drewN (Below.refl _ _) n)
def missB (gs : List X.S30) (x : X.S55) : Bool := (getG gs x.f0).f0.toList.isEmpty
set_option maxHeartbeats 1000000 in
theorem miss_any (x : X.S55) (hs : x.f0.size ≤ 9223372036854775807) (w : World) (B t : Nat) (gs : List X.S30) (hB : w.cell? ⟨B, 0, none⟩ = some (.pointer (some ⟨t, 0, none⟩))) (ht : TabIn w t gs) :
  Calls Tryz.prog 89 #[lotV x, .pointer (some ⟨B, 0, none⟩)] w fun e w' => e = .returned (.bool (missB gs x)) ∧ Below w.heap.size w w' := by
 obtain ⟨s, n⟩ := x
 simp only at hs
 unfold lotV
 obtain ⟨m, hc, hm⟩ := ht
 have hc0 := (blk_cell hc 0).trans rfl
 have hBl := World.block_lt_of_cell? w _ hB
 have htl := blk_lt hc
 simp only at hBl
 have hlk := fun q => ((hm.below (below_alloc (Below.refl _ _) (.cells #[.string s, .int .i64 n] 55))).drewN q).look s hs
 have hg := Lib.hid (show missB gs ⟨s, n⟩ = (getG gs s).f0.toList.isEmpty from rfl)
 generalize getG gs s = g at hlk hg
 obtain ⟨g0, g1, g2, g3⟩ := g
 unfold goodV at hlk
 simp only at hg hlk
 have hfl : ∀ w, (Instr.field 30 (.agg #[.string g0, .int .i64 g1, .int .i64 g2, .int .i64 g3]) 0).run Tryz.prog w = .ok (.string g0) w := fun _ => by kernel_rfl
 go_enter Tryz.func89, Tryz.ntmps89
 go_wp2_with fail
 go_quiet (fail)
 go_wp2
 go_ret
 exact ⟨by rw [hg.out]; rfl, pw_below_drewN (below_alloc (Below.refl _ _) _) _⟩
theorem any_next {α : Type} (p : α → Bool) (l : List α) (k : Nat) (z : α) (hz : l[k]? = some z) (h1 : (l.take k).any p = false) (h2 : p z = false) : (l.take (k + 1)).any p = false := by
 rw [List.take_add_one, hz, List.any_append, h1]
 simp [h2]
theorem any_hit {α : Type} (p : α → Bool) (l : List α) (k : Nat) (z : α) (hz : l[k]? = some z) (h2 : p z = true) : l.any p = true := List.any_eq_true.2 ⟨z, List.mem_of_getElem? hz, h2⟩
theorem rd_at (l : List X.S55) (k : Nat) (h : k < l.length) : l[k]? = some (X.rd_T55 l (k : Int)) := by
 have e : X.rd_T55 l (k : Int) = l[k] := by simp [X.rd_T55, List.getD, List.getElem?_eq_getElem h]
 rw [e, List.getElem?_eq_getElem h]
set_option maxHeartbeats 2000000 in
theorem index_lot (g : Nat) (lb : Array Value) (eg : ∀ args w, (callFunc g args).run Tryz.prog w = .ok (.enter g args) w) (p : X.S55 → Bool) (A : Option Addr) (c : Nat) (l : List X.S55) (w : World) (hr : Kd.C X.k55 w A l.length l) (hl : l.length ≤ 1000000000)
  (hp : ∀ x ∈ l, ∀ W, Below w.heap.size w W → Calls Tryz.prog g (#[lotV x] ++ lb) W fun e w' => e = .returned (.bool (p x)) ∧ Below W.heap.size W w') :
  Calls Tryz.prog 120 #[.slice A l.length c, .func (.func g) #[] lb] w fun e w' => ∃ r : Int, e = .returned (.int .i64 r) ∧ decide (0 ≤ r) = l.any p ∧ Below w.heap.size w w' := by
 go_enter Tryz.func120, Tryz.ntmps120
 go_wp2_with fail
 go_loopw [5, 8] (fun _ v8 wr => ∃ k : Nat, k ≤ l.length ∧ v8 = .int .i64 k ∧ Below w.heap.size w wr ∧ Aside ((l.take k).any p = false)) (fun _ v8 _ => l.length - (intOf v8).toNat)
 case atStart => exact ⟨0, by omega, rfl, Below.refl _ _, by simp [Aside]⟩
 case round =>
  obtain ⟨k, hk, rfl, hB, hA⟩ := hrel
  by_cases hlt : k < l.length
  ·obtain ⟨ad, eA, e0, e1⟩ := X.at_T55 hr (k : Int) (by omega) (by omega)
   subst eA
   have hz := rd_at l k hlt
   have hcall := hp _ (List.mem_of_getElem? hz) wr hB
   replace hz := Lib.hid hz
   have hn := fun (h : p (X.rd_T55 l (k : Int)) = false) => any_next p l k _ hz.out hA h
   have hh := fun (h : p (X.rd_T55 l (k : Int)) = true) => any_hit p l k _ hz.out h
   clear hz
   generalize X.rd_T55 l (k : Int) = z at e0 e1 hcall hn hh
   obtain ⟨x, n⟩ := z
   simp only [Int.toNat_natCast] at e0 e1
   have a0 := keepw hB e0
   have a1 := keepw hB e1
   clear e0 e1
   unfold lotV at hcall
   cases hq : p ⟨x, n⟩ with
   | true =>
    rw [hq] at hcall
    replace hh := Lib.hid (hh hq)
    clear hn hq
    go_wp2_with fail
    refine hcall.mono ?_
    rintro e w' ⟨rfl, hb'⟩
    go_wp2_with fail
    go_ret
    exact ⟨_, rfl, by rw [hh.out]; simp, below_step hB hb'⟩
   | false =>
    rw [hq] at hcall
    replace hn : Aside ((l.take (k + 1)).any p = false) := hn hq
    clear hh hq
    go_wp2_with fail
    refine hcall.mono ?_
    rintro e w' ⟨rfl, hb'⟩
    go_wp2_with fail
    go_roundw
    case measure => simp [intOf]; omega
    case rel => exact ⟨k + 1, by omega, by go_num, below_step hB hb', hn⟩
  ·have hA2 : Aside (l.any p = false) := by
    have := hA.out
    rwa [List.take_of_length_le (by omega)] at this
   go_wp2_with fail
   go_ret
   exact ⟨_, rfl, by rw [hA2.out]; rfl, hB⟩
theorem contains_lot (g : Nat) (lb : Array Value) (eg : ∀ args w, (callFunc g args).run Tryz.prog w = .ok (.enter g args) w) (p : X.S55 → Bool) (A : Option Addr) (c : Nat) (l : List X.S55) (w : World) (hr : Kd.C X.k55 w A l.length l) (hl : l.length ≤ 1000000000)
  (hp : ∀ x ∈ l, ∀ W, Below w.heap.size w W → Calls Tryz.prog g (#[lotV x] ++ lb) W fun e w' => e = .returned (.bool (p x)) ∧ Below W.heap.size W w') :
  Calls Tryz.prog 87 #[.slice A l.length c, .func (.func g) #[] lb] w fun e w' => e = .returned (.bool (l.any p)) ∧ Below w.heap.size w w' := by
 have hI := index_lot g lb eg p A c l w hr hl hp
 clear hp
 go_enter Tryz.func87, Tryz.ntmps87
 go_wp2_with fail
 refine hI.mono ?_
 rintro e w' ⟨r, rfl, hr, hb'⟩
 replace hr := Lib.hid hr
 go_wp2_with fail
 go_ret
 exact ⟨by rw [← hr.out]; rfl, hb'⟩
def knownB (gs : List X.S30) (l : List X.S55) : Int := if l.any badB then 1 else if l.any (missB gs) then 4 else 0
set_option maxHeartbeats 2000000 in
theorem known_any (t : Nat) (gs : List X.S30) (A : Option Addr) (c : Nat) (l : List X.S55) (w : World) (ht : TabIn w t gs) (hr : Kd.C X.k55 w A l.length l) (hl : l.length ≤ 1000000000) (hs : ∀ x ∈ l, x.f0.size ≤ 9223372036854775807) :
  Calls Tryz.prog 51 #[.pointer (some ⟨t, 0, none⟩), .slice A l.length c] w fun e w' => e = .returned (.int .i64 (knownB gs l)) ∧ Below w.heap.size w w' := by
 have e88 := enters_of Tryz.func88 (by kernel_rfl) rfl
 have e89 := enters_of Tryz.func89 (by kernel_rfl) rfl
 have hB1 : Below w.heap.size w (w.alloc (.cells #[.pointer (some ⟨t, 0, none⟩)] 31)) := below_alloc (Below.refl _ _) _
 have c1 := contains_lot _ #[] e88 badB A c l _ (Kd.C_below hr hB1) hl (fun x hx W hW => by simpa using bad_any x (hs x hx) W)
 have c2 := fun W (hW : Below w.heap.size w W) (hb : W.cell? ⟨w.heap.size, 0, none⟩ = some (.pointer (some ⟨t, 0, none⟩))) => contains_lot _ #[.pointer (some ⟨w.heap.size, 0, none⟩)] e89 (missB gs) A c l W (Kd.C_below hr hW) hl
  (fun x hx W' hW' => miss_any x (hs x hx) W' w.heap.size t gs (keepw hW' hb) (ht.below (hW.trans (hW'.mono hW.size))))
 have hbox : (w.alloc (.cells #[.pointer (some ⟨t, 0, none⟩)] 31)).cell? ⟨w.heap.size, 0, none⟩ = some (.pointer (some ⟨t, 0, none⟩)) := (blk_cell (blk_new w _) 0).trans rfl
 clear e88 e89
 cases h1 : l.any badB with
 | true =>
  rw [h1] at c1
  clear c2 hbox
  have hk := Lib.hid (show knownB gs l = 1 by unfold knownB; rw [if_pos h1])
  clear h1
  go_enter Tryz.func51, Tryz.ntmps51
  go_wp2_with fail
  refine c1.mono ?_
  rintro e w' ⟨rfl, hb⟩
  go_wp2_with fail
  go_ret
  exact ⟨by rw [hk.out]; rfl, below_step hB1 hb⟩
 | false =>
  rw [h1] at c1
  cases h2 : l.any (missB gs)
  all_goals
   rw [h2] at c2
   have hk := Lib.hid (show knownB gs l = _ by unfold knownB; rw [h1, h2])
   clear h1 h2
   go_enter Tryz.func51, Tryz.ntmps51
   go_wp2_with fail
   refine c1.mono ?_
   rintro e w' ⟨rfl, hb⟩
   have c3 := c2 w' (below_step hB1 hb) (keepw hb hbox)
   clear c2
   go_wp2_with fail
   refine c3.mono ?_
   rintro e w2 ⟨rfl, hb2⟩
   go_wp2_with fail
   go_ret
   exact ⟨by rw [hk.out]; rfl, below_step (below_step hB1 hb) hb2⟩
end Go.Proofs.YtfflbeenkfaemaaGreatDoor.Ext
