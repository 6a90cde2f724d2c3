/- The walk of mark.Mend: the right marks that are unlike at one place, sorted; through a map of the call's own. -/
import Derived.Test.YtkfcllapmkeihaaDoorMarkK
import Derived.Test.YtkfcllapmkeihaaDoorIter
import Derived.Maps.OwnSet
import Derived.Lib.ConvBytes
import Derived.Lib.SmallJoins
import Derived.RegionTactic
import Derived.ChangeAlike
import Derived.Deep.AppendLies
namespace Go.Proofs.YtkfcllapmkeihaaDoor.Ext
open Go.RowKit Go.Maps Go.WideMaps

def chB (i : Nat) : ByteArray := if i < 4 then ⟨#[97, 98, 99, 100, 101, 102, 103, 104, 105, 106, 107, 108, 109, 110, 111, 112, 113, 114, 115, 116, 117, 118, 119, 120, 121, 122]⟩ else ⟨#[48, 49, 50, 51, 52, 53, 54, 55, 56, 57]⟩
theorem chB_size (i : Nat) : (chB i).size ≤ 26 := by unfold chB; split <;> decide
theorem choices_any (k : Nat) (w : World) :
    Calls Tryd.prog 36 #[.int .i64 (k : Int)] w fun e w' => e = .returned (.string (chB k)) ∧ w = w' := by
  by_cases h : k < 4
  · have h' : (k : Int) < 4 := by omega
    have e : Hid (chB k = ⟨#[97, 98, 99, 100, 101, 102, 103, 104, 105, 106, 107, 108, 109, 110, 111, 112, 113, 114, 115, 116, 117, 118, 119, 120, 121, 122]⟩) := by show chB k = _; unfold chB; rw [if_pos h]
    go_enter Tryd.func36, Tryd.ntmps36
    go_wp2_with fail
    go_ret
    exact ⟨by rw [e.out]; rfl, rfl⟩
  · have h' : ¬ (k : Int) < 4 := by omega
    have e : Hid (chB k = ⟨#[48, 49, 50, 51, 52, 53, 54, 55, 56, 57]⟩) := by show chB k = _; unfold chB; rw [if_neg h]
    go_enter Tryd.func36, Tryd.ntmps36
    go_wp2_with fail
    go_ret
    exact ⟨by rw [e.out]; rfl, rfl⟩

def candM (s : ByteArray) (i : Nat) (c : UInt8) : ByteArray := s.extract 0 i ++ ⟨#[c]⟩ ++ s.extract (i + 1) s.size
def stepM (s : ByteArray) (i : Nat) (acc : List ByteArray) (c : UInt8) : List ByteArray := if candM s i c ≠ s ∧ rightB (candM s i c) = true then acc ++ [candM s i c] else acc
def innerM (s : ByteArray) (i : Nat) (acc : List ByteArray) (j : Nat) : List ByteArray := ((chB i).data.toList.take j).foldl (stepM s i) acc
def outerM (s : ByteArray) : Nat → List ByteArray
  | 0 => []
  | k + 1 => innerM s k (outerM s k) (chB k).size
def setM {H : Type} (acc : List ByteArray) : DataW H := setOf (.lit (.bool true)) (acc.map fun t => Lit.string t.data.toList)

/-- One byte as a text. -/
theorem one_byte (c : UInt8) (W : World) :
    (convert 29 9 (.slice (some ⟨W.heap.size, 0, none⟩) 1 1)).run Tryd.prog (W.alloc (.cells #[.int .u8 (c.toNat : Int)] 5)).drew = .ok (.string ⟨#[c]⟩) (W.alloc (.cells #[.int .u8 (c.toNat : Int)] 5)).drew := by
  have h := run_convert_bytes_back (P := Tryd.prog) (W.alloc (.cells #[.int .u8 (c.toNat : Int)] 5)).drew 29 9 5 ⟨W.heap.size, 0, none⟩ 1 [c] Tryd.underlying29 Tryd.underlying5 Tryd.underlying9 (fun j hj => by
    have : j = 0 := by simpa using hj
    subst this
    rw [Lib.add_plain]
    simp)
  exact h

theorem inner_next (s : ByteArray) (i : Nat) (acc : List ByteArray) (j : Nat) (h : j < (chB i).size) : innerM s i acc (j + 1) = stepM s i (innerM s i acc j) (sgn (chB i) j) := by
  unfold innerM
  rw [take_next _ _ h, List.foldl_append, sgn_at _ _ h]
  rfl
theorem law9 : Keyed Tryd.prog 9 := string_keyed Tryd.underlying9
theorem setM_snoc {H : Type} (acc : List ByteArray) (t : ByteArray) : setM (H := H) (acc ++ [t]) = (setM acc).put (.string t.data.toList) (.lit (.bool true)) := by
  unfold setM
  rw [List.map_append, List.map_cons, List.map_nil, setOf_snoc]
theorem maps_size_le {H : Type} {w : World} {P : Program} {k : TypeId} {R : Value → Option (DataW H × List MemPlace)} {b n : Nat} {D : DataW H} (h : w.ownsMap P k R b n D) : Maps.size D ≤ n := by
  obtain ⟨es, clock, _, _, hs, hD⟩ := h
  rw [hD, size_eq, length_sorted, List.length_map]
  simpa using hs
theorem own_weaken' {w : World} {b b' : Nat} {e : TypeId} {sz n : Nat} {v : Value} {xs : List Value} (h : w.ownsRow b e sz v n xs) (hb : b' ≤ b) : w.ownsRow b' e sz v n xs := by
  obtain ⟨h1, h2⟩ := h
  refine ⟨h1, h2.imp id ?_⟩
  rintro ⟨g, cap, cur, hv, hg, hr⟩
  exact ⟨g, cap, cur, hv, Nat.le_trans hb hg, hr⟩
/-- The texts that are found, sorted. -/
def mendLL (s : ByteArray) : List (List UInt8) := (strKeys (setM (H := Unit) (outerM s 12))).mergeSort (fun x y => decide (x ≤ y))

set_option maxHeartbeats 8000000 in
set_option maxRecDepth 100000 in
theorem Mend_12 (s : ByteArray) (h12 : s.size = 12) (w : World) :
    Calls Tryd.prog 23 #[.string s] w fun e w' => ∃ v : Value, e = .returned v ∧ w'.ownsRow w.heap.size 9 1 v (mendLL s).length ((mendLL s).map Go.Proofs.encStr) ∧ Below w.heap.size w w' := by
  have hmm := @run_makeMap Tryd.prog
  have hcv := fun (W : World) (t : ByteArray) => Lib.run_convert_string_bytes (P := Tryd.prog) W 9 29 5 t (u := .string) Tryd.underlying9 Tryd.underlying29 Tryd.underlying5
  have hb : ((s.size : Int) != 12) = false := by simp [h12]
  have H12 := Lib.hid h12
  clear h12
  go_enter Tryd.func23, Tryd.ntmps23
  go_wp2_with fail
  go_loopw [12] (fun i wr => ∃ k n : Nat, k ≤ 12 ∧ n ≤ 26 * k ∧ i = .int .i64 k ∧ wr.ownsMap Tryd.prog 9 (plainElem (H := Unit) Tryd.prog 4) w.heap.size n (setM (outerM s k)) ∧ Below w.heap.size w wr) (fun i _ => 12 - (intOf i).toNat)
  case atStart => exact ⟨0, 0, by omega, by omega, rfl, World.ownsMap_made _ _ _ _, (Below.refl _ _).alloc (Nat.le_refl _) _⟩
  case round =>
    obtain ⟨k, n, hk, hn, rfl, hown, hbel⟩ := hrel
    by_cases hlt : k < 12
    · go_wp2_with fail
      refine (choices_any k _).mono ?_
      rintro e w' ⟨rfl, rfl⟩
      go_wp2_with fail
      have hk26 := chB_size k
      have hcells : Aside (∀ j, j < (chB k).size → (Lib.bytesWorld wr 5 (chB k)).cell? ⟨wr.heap.size, j, none⟩ = some (.int .u8 ((sgn (chB k) j).toNat : Int))) := fun j hj => Lib.bytesWorld_cell wr 5 (chB k) j hj
      have hsz : wr.heap.size + 1 = (Lib.bytesWorld wr 5 (chB k)).heap.size := (Lib.bytesWorld_size wr 5 (chB k)).symm
      have hbel2 : Below w.heap.size w (Lib.bytesWorld wr 5 (chB k)) := hbel.trans ((Go.Joins.below_bytesWorld _ wr 5 (chB k) (Nat.le_refl _)).mono hbel.size)
      have hown2 : (Lib.bytesWorld wr 5 (chB k)).ownsMap Tryd.prog 9 (plainElem (H := Unit) Tryd.prog 4) w.heap.size n (setM (outerM s k)) := hown.kept (row := none) ⟨rfl, rfl, rfl, by rw [Lib.bytesWorld_size]; omega, fun j hj _ => Lib.bytesWorld_at_old wr 5 (chB k) j hj⟩ (by simp)
      have hB : wr.heap.size < (Lib.bytesWorld wr 5 (chB k)).heap.size := by omega
      have hBw : w.heap.size < wr.heap.size := hown.lt
      clear hown hbel hsz
      generalize Lib.bytesWorld wr 5 (chB k) = wx at *
      generalize wr.heap.size = B at *
      generalize grownCap wr (chB k).size 0 5 = cap at *
      go_loopw [19] (fun i w2 => ∃ j m : Nat, j ≤ (chB k).size ∧ m ≤ n + j ∧ i = .int .i64 j ∧ w2.ownsMap Tryd.prog 9 (plainElem (H := Unit) Tryd.prog 4) w.heap.size m (setM (innerM s k (outerM s k) j)) ∧ Below w.heap.size w w2 ∧ B < w2.heap.size ∧ Aside (∀ j, j < (chB k).size → w2.cell? ⟨B, j, none⟩ = some (.int .u8 ((sgn (chB k) j).toNat : Int)))) (fun i _ => (chB k).size - (intOf i).toNat)
      case atStart => exact ⟨0, n, by omega, by omega, rfl, hown2, hbel2, hB, hcells⟩
      case round =>
        obtain ⟨j, m, hj, hm, rfl, hown3, hbel3, hB3, hc3⟩ := hrel
        by_cases hlj : j < (chB k).size
        · have hcell := hc3.out j hlj
          have hnext := Lib.hid (inner_next s k (outerM s k) j hlj)
          obtain ⟨c, hc⟩ : ∃ c, c = sgn (chB k) j := ⟨_, rfl⟩
          rw [← hc] at hcell hnext
          clear hc
          have hks : k + 1 ≤ s.size := by rw [H12.out]; omega
          have hs12 : s.size ≤ 12 := by rw [H12.out]; omega
          have hks0 : k ≤ s.size := by omega
          have hob := one_byte c
          have hsb := hbel3.size
          -- the world behind the region
          have HW4 : Hid ((wr.alloc (.cells #[.int .u8 (c.toNat : Int)] 5)).drew.ownsMap Tryd.prog 9 (plainElem (H := Unit) Tryd.prog 4) w.heap.size m (setM (innerM s k (outerM s k) j))) := hown3.alloc _
          have HB4 : Hid (Below w.heap.size w (wr.alloc (.cells #[.int .u8 (c.toNat : Int)] 5)).drew) := (hbel3.alloc hsb _).drew
          have HC4 : Hid (∀ j, j < (chB k).size → (wr.alloc (.cells #[.int .u8 (c.toNat : Int)] 5)).drew.cell? ⟨B, j, none⟩ = some (.int .u8 ((sgn (chB k) j).toNat : Int))) := fun j hj => by
            rw [← hc3.out j hj]
            exact ((Below.refl wr.heap.size wr).alloc (Nat.le_refl _) _).cell (p := ⟨B, j, none⟩) hB3
          have HS4 : Hid (B < (wr.alloc (.cells #[.int .u8 (c.toNat : Int)] 5)).drew.heap.size) := by
            show B < (wr.alloc _).heap.size
            simp; omega
          have htz : (candM s k c).size ≤ 9223372036854775807 := by
            unfold candM
            rw [ByteArray.size_append, ByteArray.size_append]
            have : ByteArray.size ⟨#[c]⟩ = 1 := rfl
            simp
            omega
          have hright := fun w => Right_any (candM s k c) htz w
          have hcand : Hid (s.extract 0 k ++ ⟨#[c]⟩ ++ s.extract (k + 1) s.size = candM s k c) := rfl
          have hkey : keyOf Tryd.prog 9 (.string (candM s k c)) = some (.string (candM s k c).data.toList) := keyOf_string_mk Tryd.underlying9 htz
          go_wp2_with fail
          go_region
          clear hown3 hbel3 hc3 hcell hob hB3 hsb
          generalize (wr.alloc (.cells #[.int .u8 (c.toNat : Int)] 5)).drew = w4 at *
          go_wp2_with fail
          · -- the same text
            have hte : (s.extract 0 k ++ { data := #[c] } ++ s.extract (k + 1) s.size).toList = s.toList := by assumption
            have hstep : Aside (innerM s k (outerM s k) (j + 1) = innerM s k (outerM s k) j) := by
              show _ = _
              rw [hnext.out]
              unfold stepM
              rw [if_neg]
              intro h
              rw [hcand.out, ByteArray.toList_eq, ByteArray.toList_eq] at hte
              exact h.1 (bytes_ext hte)
            go_roundw
            case measure => simp [intOf]; omega
            case rel => exact ⟨j + 1, m, by omega, by omega, by go_num, by rw [hstep.out]; exact HW4.out, HB4.out, HS4.out, HC4.out⟩
          · have hne : ¬ (s.extract 0 k ++ { data := #[c] } ++ s.extract (k + 1) s.size).toList = s.toList := by assumption
            have hne' : Aside (candM s k c ≠ s) := fun h => hne (by rw [hcand.out, h])
            clear hne
            have hnb : (!(candM s k c).toList == s.toList) = true := by
              rw [ByteArray.toList_eq, ByteArray.toList_eq]
              simp
              exact fun e => hne'.out (ByteArray.ext e)
            rw [hcand.out]
            cases hr : rightB (candM s k c) with
            | false =>
              have hstep : Aside (innerM s k (outerM s k) (j + 1) = innerM s k (outerM s k) j) := by
                show _ = _
                rw [hnext.out]
                unfold stepM
                rw [if_neg]
                intro h
                rw [hr] at h
                cases h.2
              rw [hr] at hright
              refine (hright _).mono ?_
              rintro e w' ⟨rfl, q, rfl⟩
              go_wp2_with fail
              go_roundw
              case measure => simp [intOf]; omega
              case rel => exact ⟨j + 1, m, by omega, by omega, by go_num, by rw [hstep.out]; exact HW4.out, ⟨HB4.out.os, HB4.out.tape, HB4.out.output, HB4.out.size, HB4.out.block⟩, HS4.out, HC4.out⟩
            | true =>
              have hstep : Aside (setM (H := Unit) (innerM s k (outerM s k) (j + 1)) = (setM (innerM s k (outerM s k) j)).put (.string (candM s k c).data.toList) (.lit (.bool true))) := by
                show _ = _
                rw [hnext.out]
                unfold stepM
                rw [if_pos ⟨hne'.out, hr⟩, setM_snoc]
              rw [hr] at hright
              refine (hright _).mono ?_
              rintro e w' ⟨rfl, q, rfl⟩
              have hw5 : (w4.drewN q).ownsMap Tryd.prog 9 (plainElem (H := Unit) Tryd.prog 4) w.heap.size m (setM (innerM s k (outerM s k) j)) := HW4.out
              have hb5 : Below w.heap.size w (w4.drewN q) := ⟨HB4.out.os, HB4.out.tape, HB4.out.output, HB4.out.size, HB4.out.block⟩
              have hc5 : Aside (∀ j, j < (chB k).size → (w4.drewN q).cell? ⟨B, j, none⟩ = some (.int .u8 ((sgn (chB k) j).toNat : Int))) := HC4.out
              have hs5 : B < (w4.drewN q).heap.size := HS4.out
              have hlim : m ≤ 400 := by omega
              clear HW4 HB4 HC4 HS4 hright
              generalize w4.drewN q = w5 at *
              go_wp2_with (at_mapUpdate; refine wpList_mapUpdate_own _ rfl _ _ _ 44 rfl 9 4 law9 Tryd.underlying44 _ w.heap.size m _ rfl hw5 (by unfold maxLen; omega) _ _ _ rfl rfl hkey _ [] (plainElem_bool Tryd.underlying4 true) ?_)
              intro w6 hown6 hgrow6
              have hown7 : Aside (w6.ownsMap Tryd.prog 9 (plainElem (H := Unit) Tryd.prog 4) w.heap.size (m + 1) (setM (innerM s k (outerM s k) (j + 1)))) := by rw [hstep.out]; exact hown6
              have hbel7 : Below w.heap.size w w6 := hb5.grown hgrow6 hb5.size (fun j hj => by cases hj; exact Nat.le_refl _)
              have hsz7 : B < w6.heap.size := Nat.lt_of_lt_of_le hs5 hgrow6.size
              have hcell7 : Aside (∀ j, j < (chB k).size → w6.cell? ⟨B, j, none⟩ = some (.int .u8 ((sgn (chB k) j).toNat : Int))) := fun j hj => by
                rw [← hc5.out j hj]
                exact hgrow6.cell_far ⟨B, j, none⟩ hs5 (by simp; omega)
              clear hown6 hgrow6 hw5 hb5 hc5 hs5
              go_wp2_with fail
              go_roundw
              case measure => simp [intOf]; omega
              case rel => exact ⟨j + 1, m + 1, by omega, by omega, by go_num, hown7.out, hbel7, hsz7, hcell7⟩
        · have : j = (chB k).size := by omega
          subst this
          go_wp2_with fail
          go_roundw
          case measure => simp [intOf]; omega
          case rel => exact ⟨k + 1, m, by omega, by omega, by go_num, hown3, hbel3⟩
    · have : k = 12 := by omega
      subst this
      have hmx := maps_size_le hown
      have cK := fun W => callsIn_wide.1 (Tryd.maps_Keys_38 (some w.heap.size) W)
      have cS := callsIn_wide.1 (Tryd.slices_Sorted_keys_37_38 w.heap.size n (setM (H := Unit) (outerM s 12)) _ wr hown (by unfold maxLen; omega) (by omega))
      go_wp2_with fail
      refine (cK _).mono ?_
      rintro e w' ⟨rfl, rfl⟩
      go_wp2_with fail
      refine cS.mono ?_
      rintro e w1 ⟨v, ss, rfl, hS, hrow, hnil, hb1⟩
      go_wp2_with fail
      go_ret
      have hsb := hbel.size
      have e : ss.mergeSort (fun x y => decide (x ≤ y)) = mendLL s := Go.mergeSort_of_perm hS
      have el : ss.length = (mendLL s).length := by rw [← e, List.length_mergeSort]
      rw [e, el] at hrow
      refine ⟨v, rfl, own_weaken' hrow (by simp; omega), (hbel.alloc hsb _).trans (hb1.mono (by simp; omega))⟩
end Go.Proofs.YtkfcllapmkeihaaDoor.Ext
