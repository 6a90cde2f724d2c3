/- (*draft.Bill).Liable: the keys of a map of the call's own, sorted. -/
import Derived.Test.YtcmjgkmnbenniaaGreatDoorMeth
import Derived.Test.YtcmjgkmnbenniaaGreatDoorIter
import Derived.Maps.OwnSet
import Derived.Lib.SmallJoins
namespace Go.Proofs.YtcmjgkmnbenniaaGreatDoor.Ext
open Go.RowKit Go.Maps Go.WideMaps Go.ChangeMaps Go.Proofs.YtcmjgkmnbenniaaGreatDoorW.PrintWords Go.Proofs.YtcmjgkmnbenniaaGreatDoorW.PrintLast

theorem law9 : Keyed Tryz.prog 9 := string_keyed Tryz.underlying9
def yes : DataW Unit := .lit (.bool true)
def keyL (s : ByteArray) : Lit := .string s.data.toList
theorem keyOf_bytes (s : ByteArray) (h : s.size ≤ 9223372036854775807) : keyOf Tryz.prog 9 (.string s) = some (keyL s) := keyOf_string_mk Tryz.underlying9 h
def liabD (d : Dr) (b : St) : DataW Unit :=
  (if b.acc then ((setM b.passed).put (keyL d.drawer) yes).put (keyL d.drawee) yes else (setM b.passed).put (keyL d.drawer) yes).del (keyL b.holder)
def liabL (d : Dr) (b : St) : List (List UInt8) := if b.state = 2 then [] else (strKeys (liabD d b)).mergeSort (fun x y => decide (x ≤ y))
theorem turned_grown {w w' : World} {b : Nat} (h : w.mapTurned w' b) : w.grownBy w' (some b) := by
  obtain ⟨es, clock, es', clock', hb, rfl⟩ := h
  exact ⟨rfl, rfl, rfl, by simp [setBlock], fun i _ hi => heap_setBlock_other hb _ (fun e => hi (by rw [e]))⟩
theorem own_weaken' {w : World} {b b' : Nat} {e : TypeId} {sz n : Nat} {v : Value} {xs : List Value} (h : w.ownsRow b e sz v n xs) (hb : b' ≤ b) : w.ownsRow b' e sz v n xs := by
  obtain ⟨h1, h2⟩ := h
  refine ⟨h1, h2.imp id ?_⟩
  rintro ⟨g, cap, cur, hv, hg, hr⟩
  exact ⟨g, cap, cur, hv, Nat.le_trans hb hg, hr⟩
theorem maps_size_le {H : Type} {w : World} {P : Program} {k : TypeId} {R : Value → Option (DataW H × List MemPlace)} {b n : Nat} {D : DataW H} (h : w.ownsMap P k R b n D) : Maps.size D ≤ n := h.size_le
structure Small (d : Dr) (b : St) : Prop where
  a1 : d.num.size ≤ 9223372036854775807
  a2 : d.drawer.size ≤ 9223372036854775807
  a3 : d.drawee.size ≤ 9223372036854775807
  a4 : d.payee.size ≤ 9223372036854775807
  a5 : b.holder.size ≤ 9223372036854775807
  a6 : b.passed.length ≤ 1000
set_option maxHeartbeats 4000000 in
set_option maxRecDepth 100000 in
theorem Liable_any (w : World) (lo g m : Nat) (d : Dr) (b : St) (h : IsBill w lo g m d b) (hs : Small d b) :
    Calls Tryz.prog 18 #[pt0 g] w fun e w' => ∃ v : Value, e = .returned v ∧ w'.ownsRow w.heap.size 9 1 v (liabL d b).length ((liabL d b).map Go.Proofs.encStr) ∧ Below w.heap.size w w' := by
  have h9 : w.cell? ⟨g, 9, none⟩ = some (.int .i64 b.state) := h.cell 9
  by_cases hst : b.state = 2
  · have hst' : (b.state == 2) = true := by rw [hst]; rfl
    have hL : Hid (liabL d b = []) := by show _ = _; rw [liabL, if_pos hst]
    clear hst
    go_enter Tryz.func18, Tryz.ntmps18
    go_wp2_with fail
    go_ret
    exact ⟨_, rfl, by rw [hL.out]; exact ⟨rfl, .inl ⟨rfl, rfl⟩⟩, Below.refl _ _⟩
  · have hst' : (b.state == 2) = false := by rw [beq_eq_false_iff_ne]; exact hst
    have hL : Hid (liabL d b = (strKeys (liabD d b)).mergeSort (fun x y => decide (x ≤ y))) := by show _ = _; rw [liabL, if_neg hst]
    clear hst
    have h11 : w.cell? ⟨g, 11, none⟩ = some (.map (some m)) := h.cell 11
    have cC := Tryz.maps_Clone 9 (plainElem (H := Unit) Tryz.prog 4) m b.passed.length (setM b.passed) w h.own
    have hk1 := keyOf_bytes d.drawer hs.a2
    have hk2 := keyOf_bytes d.drawee hs.a3
    have hk3 := keyOf_bytes b.holder hs.a5
    have h6 := hs.a6
    go_enter Tryz.func18, Tryz.ntmps18
    go_wp2_with fail
    refine cC.mono ?_
    rintro e w1 ⟨rfl, hown, _, hb1⟩
    have hbill1 := h.below hb1
    have g1 : w1.cell? ⟨g, 1, none⟩ = some (.string d.drawer) := hbill1.cell 1
    have hlt := h.ltg
    have hsz1 := hown.lt
    generalize hM : w.heap.size = M at *
    go_wp2_with (at_mapUpdate; refine wpList_mapUpdate_own _ rfl _ _ _ 59 rfl 9 4 law9 Tryz.underlying59 _ M b.passed.length _ rfl hown (by unfold maxLen; omega) _ _ _ rfl rfl hk1 _ [] (plainElem_bool Tryz.underlying4 true) ?_)
    intro w2 hown2 hgr2
    have hbel2 : Below M w w2 := hb1.grown hgr2 (by rw [← hM]; exact hb1.size) (fun j hj => by cases hj; exact Nat.le_refl _)
    have hbill2 : IsBill w2 lo g m d b := by
      refine hbill1.kept (S := fun k => k = M) ⟨hgr2.size, fun i hi hn => hgr2.block i hi (fun e => hn (by cases e; rfl))⟩ (by show ¬ g = M; omega) (by show ¬ m = M; have := h.ltm; omega)
    have g1' := hbill2.cell 1
    have g2 : w2.cell? ⟨g, 2, none⟩ = some (.string d.drawee) := hbill2.cell 2
    have g13 : w2.cell? ⟨g, 13, none⟩ = some (.bool b.acc) := hbill2.cell 13
    have g10 : w2.cell? ⟨g, 10, none⟩ = some (.string b.holder) := hbill2.cell 10
    have hlim : b.passed.length + 1 < maxLen := by unfold maxLen; omega
    have fin : ∀ (n : Nat) (D : DataW Unit) (W : World), n ≤ 2000 → W.ownsMap Tryz.prog 9 (plainElem (H := Unit) Tryz.prog 4) M n D → CallsIn Fence.wide 5 Tryz.prog 39 #[.func (.func 66) #[] #[.pointer (some ⟨W.heap.size, 0, none⟩)]] (W.alloc (.cells #[.map (some M)] 59)) fun e w' => ∃ (v : Value) (ss : List (List UInt8)), e = .returned v ∧ ss.Perm (strKeys D) ∧
        w'.ownsRow (W.alloc (.cells #[.map (some M)] 59)).heap.size 9 1 v ss.length ((ss.mergeSort (fun x y => decide (x ≤ y))).map encStr) ∧ (v = .slice none 0 0 ↔ ss = []) ∧ Below (W.alloc (.cells #[.map (some M)] 59)).heap.size (W.alloc (.cells #[.map (some M)] 59)) w' := fun n D W hn hW => by
      have hz := maps_size_le hW
      exact Tryz.slices_Sorted_keys_39_40 M n D _ W hW (by unfold maxLen; omega) (by omega)
    have cK := fun W => callsIn_wide.1 (Tryz.maps_Keys_40 (some M) W)
    cases hacc : b.acc with
    | false =>
      have hD : Hid (liabD d b = ((setM b.passed).put (keyL d.drawer) yes).del (keyL b.holder)) := by show _ = _; rw [liabD, hacc]; rfl
      rw [hacc] at g13
      go_wp2_with (at_delete; refine wpList_delete_own _ rfl _ _ 59 9 rfl 4 law9 Tryz.underlying59 _ M (b.passed.length + 1) _ rfl hown2 _ _ rfl hk3 ?_)
      intro w3 hown3 htn3
      have hgr3 := turned_grown htn3
      have hbel3 : Below M w w3 := hbel2.grown hgr3 (by rw [← hM]; exact hbel2.size) (fun j hj => by cases hj; exact Nat.le_refl _)
      have cS := callsIn_wide.1 (fin _ _ w3 (by omega) hown3)
      go_wp2_with fail
      refine (cK _).mono ?_
      rintro e w' ⟨rfl, rfl⟩
      go_wp2_with fail
      refine cS.mono ?_
      rintro e w4 ⟨v, ss, rfl, hS, hrow, hnil, hb4⟩
      go_wp2_with fail
      go_ret
      have e : ss.mergeSort (fun x y => decide (x ≤ y)) = liabL d b := by rw [hL.out, hD.out]; exact Go.mergeSort_of_perm hS
      have el : ss.length = (liabL d b).length := by rw [← e, List.length_mergeSort]
      rw [e, el] at hrow
      have hs3 := hbel3.size
      exact ⟨v, rfl, own_weaken' hrow (by simp; omega), by rw [hM]; exact (hbel3.alloc (by omega) _).trans (hb4.mono (by simp; omega))⟩
    | true =>
      have hD : Hid (liabD d b = (((setM b.passed).put (keyL d.drawer) yes).put (keyL d.drawee) yes).del (keyL b.holder)) := by show _ = _; rw [liabD, hacc]; rfl
      rw [hacc] at g13
      go_wp2_with (at_mapUpdate; refine wpList_mapUpdate_own _ rfl _ _ _ 59 rfl 9 4 law9 Tryz.underlying59 _ M (b.passed.length + 1) _ rfl hown2 hlim _ _ _ rfl rfl hk2 _ [] (plainElem_bool Tryz.underlying4 true) ?_)
      intro w2b hown2b hgr2b
      have hbel2b : Below M w w2b := hbel2.grown hgr2b (by rw [← hM]; exact hbel2.size) (fun j hj => by cases hj; exact Nat.le_refl _)
      have hbill2b : IsBill w2b lo g m d b := by
        refine hbill2.kept (S := fun k => k = M) ⟨hgr2b.size, fun i hi hn => hgr2b.block i hi (fun e => hn (by cases e; rfl))⟩ (by show ¬ g = M; omega) (by show ¬ m = M; have := h.ltm; omega)
      have g10b : w2b.cell? ⟨g, 10, none⟩ = some (.string b.holder) := hbill2b.cell 10
      go_wp2_with (at_delete; refine wpList_delete_own _ rfl _ _ 59 9 rfl 4 law9 Tryz.underlying59 _ M (b.passed.length + 1 + 1) _ rfl hown2b _ _ rfl hk3 ?_)
      intro w3 hown3 htn3
      have hgr3 := turned_grown htn3
      have hbel3 : Below M w w3 := hbel2b.grown hgr3 (by rw [← hM]; exact hbel2b.size) (fun j hj => by cases hj; exact Nat.le_refl _)
      have cS := callsIn_wide.1 (fin _ _ w3 (by omega) hown3)
      go_wp2_with fail
      refine (cK _).mono ?_
      rintro e w' ⟨rfl, rfl⟩
      go_wp2_with fail
      refine cS.mono ?_
      rintro e w4 ⟨v, ss, rfl, hS, hrow, hnil, hb4⟩
      go_wp2_with fail
      go_ret
      have e : ss.mergeSort (fun x y => decide (x ≤ y)) = liabL d b := by rw [hL.out, hD.out]; exact Go.mergeSort_of_perm hS
      have el : ss.length = (liabL d b).length := by rw [← e, List.length_mergeSort]
      rw [e, el] at hrow
      have hs3 := hbel3.size
      exact ⟨v, rfl, own_weaken' hrow (by simp; omega), by rw [hM]; exact (hbel3.alloc (by omega) _).trans (hb4.mono (by simp; omega))⟩
end Go.Proofs.YtcmjgkmnbenniaaGreatDoor.Ext
