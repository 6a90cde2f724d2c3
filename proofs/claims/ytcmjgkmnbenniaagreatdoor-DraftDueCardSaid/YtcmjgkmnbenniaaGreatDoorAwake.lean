/- awake: the chapter's example. -/
import Derived.Test.YtcmjgkmnbenniaaGreatDoorXx0
import Derived.Test.YtcmjgkmnbenniaaGreatDoorXx1
import Derived.Test.YtcmjgkmnbenniaaGreatDoorXx3
import Derived.Test.YtcmjgkmnbenniaaGreatDoorPay
import Derived.Test.YtcmjgkmnbenniaaGreatDoorLiabP
namespace Go.Proofs.YtcmjgkmnbenniaaGreatDoor.Ext
open Go.RowKit Go.Maps Go.WideMaps Go.Proofs.YtcmjgkmnbenniaaGreatDoorW.PrintWords Go.Proofs.YtcmjgkmnbenniaaGreatDoorW.PrintLast

/-- What Liable returns, as the printed functions take it. -/
theorem liab_slice {w : World} {base : Nat} {v : Value} {d : Dr} {b : St} (h : w.ownsRow base 9 1 v (liabL d b).length ((liabL d b).map Go.Proofs.encStr)) :
    ∃ A c, v = .slice A (liabB d b).length c ∧ Kd.C Kd.string w A (liabB d b).length (liabB d b) ∧ (liabB d b).length ≤ c := by
  have hl : (liabL d b).length = (liabB d b).length := by simp [liabB]
  rw [liabB_enc, hl] at h
  have hR : Kd.R Kd.string 9 w base (fun _ => True) v (liabB d b) := Kd.R_of_own h (fun _ _ => trivial)
  obtain ⟨A, c, rfl⟩ := Kd.R_slice hR
  exact ⟨A, c, rfl, (Kd.R_reads' hR).2.2, (Kd.R_reads' hR).2.1⟩
/-- A literal slice of texts. -/
theorem lit_slice (w : World) (l : List ByteArray) (hl : l.length ≤ 1000) : Kd.C Kd.string (w.alloc (.cells (l.map Value.string).toArray 9)) (some ⟨w.heap.size, 0, none⟩) l.length l := by
  have h := World.ownsRow_lit (base := w.heap.size) (e := 9) (size := 1) w (l.map Value.string).toArray l.length (Nat.le_refl _) (by unfold maxLen; omega) (by simp)
  have hR : Kd.R Kd.string 9 (w.alloc (.cells (l.map Value.string).toArray 9)) w.heap.size (fun _ => True) (.slice (some ⟨w.heap.size, 0, none⟩) l.length l.length) l := Kd.R_of_own (by simpa [encs] using h) (fun _ _ => trivial)
  exact (Kd.R_reads' hR).2.2
def d0 : Dr := ⟨⟨#[110]⟩, ⟨#[115]⟩, ⟨#[107]⟩, ⟨#[112]⟩, ⟨#[85, 83, 68]⟩, 5, 1, 30, 0⟩
theorem may0 : X.draft_May.f 3 d0.num d0.drawer d0.drawee d0.payee d0.cur d0.amt d0.kind d0.days d0.frm = some true := by
  simp only [X.draft_May.f, X.draft_May.j0, X.draft_May.j1, ByteArray.toList_eq]
  decide
def s1 : St := ⟨1, ⟨#[112]⟩, [], 1, true⟩
def s2 : St := ⟨1, ⟨#[113]⟩, [⟨#[112]⟩], 2, true⟩
theorem acc0 : acceptCode ⟨#[107]⟩ 1 d0 (newSt d0) = 0 := by
  simp only [acceptCode, ByteArray.toList_eq]
  decide
theorem acs0 : acceptSt (acceptCode ⟨#[107]⟩ 1 d0 (newSt d0)) 1 (newSt d0) = s1 := by rw [acc0]; rfl
theorem pas0 : passCode ⟨#[112]⟩ ⟨#[113]⟩ 2 s1 = 0 := by
  simp only [passCode, holdCode, ByteArray.toList_eq]
  decide
theorem pss0 : passSt (passCode ⟨#[112]⟩ ⟨#[113]⟩ 2 s1) ⟨#[112]⟩ ⟨#[113]⟩ 2 s1 = s2 := by rw [pas0]; rfl
theorem lia0 : liabB d0 s2 = [⟨#[107]⟩, ⟨#[112]⟩, ⟨#[115]⟩] := by
  have : liabL d0 s2 = [[107], [112], [115]] := by
    refine liabL_eq _ _ _ (by decide) fun x => ?_
    simp only [s2, d0, bl, List.mem_cons, List.not_mem_nil, or_false]
    constructor
    · rintro (rfl | rfl | rfl)
      · exact ⟨by decide, by decide, .inr (.inr ⟨trivial, rfl⟩)⟩
      · exact ⟨by decide, by decide, .inl ⟨_, rfl, rfl⟩⟩
      · exact ⟨by decide, by decide, .inr (.inl rfl)⟩
    · rintro ⟨_, _, (⟨p, rfl, rfl⟩ | rfl | ⟨_, rfl⟩)⟩
      · exact .inr (.inl rfl)
      · exact .inr (.inr rfl)
      · exact .inl rfl
  rw [liabB, this]
  rfl
theorem w64 {x : Int} (h : -9223372036854775808 ≤ x) (h2 : x ≤ 9223372036854775807) : wrap64 x = x := by unfold wrap64; omega
theorem texts_l (l : List ByteArray) (hl : l.length ≤ 5000) (d : Nat) : ∀ (k i : Nat), i + d = l.length → d < k → X.supercargoref26_Texts.l0 k l l (i : Int) = some true := by
  induction d with
  | zero =>
    intro k i h hk
    obtain ⟨k, rfl⟩ : ∃ m, k = m + 1 := ⟨k - 1, by omega⟩
    simp only [X.supercargoref26_Texts.l0]
    rw [if_neg (by omega)]
  | succ d ih =>
    intro k i h hk
    obtain ⟨k, rfl⟩ : ∃ m, k = m + 1 := ⟨k - 1, by omega⟩
    simp only [X.supercargoref26_Texts.l0]
    rw [if_pos (by omega), if_pos (by omega), if_pos (by omega), if_pos trivial, w64 (by omega) (by omega), show ((i : Int) + 1) = ((i + 1 : Nat) : Int) by omega]
    exact ih k (i + 1) (by omega) (by omega)
/-- A list is the same as itself. -/
theorem texts_f (l : List ByteArray) (hl : l.length ≤ 5000) (k : Nat) (hk : l.length < k) : X.supercargoref26_Texts.f k l l = some true := by
  unfold X.supercargoref26_Texts.f
  rw [if_pos rfl]
  exact texts_l l hl l.length k 0 (by omega) hk
set_option maxHeartbeats 4000000 in
set_option maxRecDepth 100000 in
theorem awake_any (w : World) : Calls Tryz.prog 4 #[] w fun e w' => e = .returned (.bool true) ∧ Below w.heap.size w w' := by
  have hu25 := Tryz.underlying28
  have cN := New_any 3 d0 w may0
  rw [show d0.arr = #[.string ⟨#[110]⟩, .string ⟨#[115]⟩, .string ⟨#[107]⟩, .string ⟨#[112]⟩, .string ⟨#[85, 83, 68]⟩, .int .i64 5, .int .i64 1, .int .i64 30, .int .i64 0] from rfl] at cN
  go_enter Tryz.func4, Tryz.ntmps4
  go_wp2_with fail
  refine cN.mono ?_
  rintro e w1 ⟨g, m, rfl, hb1, hB1⟩
  go_wp2_with fail
  have cA := Accept_any ⟨#[107]⟩ 1 (by decide) w1 w.heap.size g m d0 (newSt d0) hb1 hB1.size
  rw [acs0, acc0] at cA
  refine cA.mono ?_
  rintro e w2 ⟨rfl, hb2, hB2, _⟩
  go_wp2_with fail
  have cP := Pass_any ⟨#[112]⟩ ⟨#[113]⟩ 2 (by decide) (by decide) w2 w.heap.size g m d0 s1 hb2 (by decide) (Nat.le_trans hB1.size hB2.size)
  rw [pss0, pas0] at cP
  refine cP.mono ?_
  rintro e w3 ⟨rfl, hb3, hB3, _⟩
  have hs3 : Small d0 s2 := ⟨by decide, by decide, by decide, by decide, by decide, by decide⟩
  have cL := Liable_any w3 w.heap.size g m d0 s2 hb3 hs3
  go_wp2_with fail
  refine cL.mono ?_
  rintro e w4 ⟨v, rfl, hrow, hB4⟩
  obtain ⟨A, c, rfl, hC, hc⟩ := liab_slice hrow
  rw [lia0] at hC hc
  rw [lia0]
  have hb4 := hb3.below hB4
  have hB04 : Below w.heap.size w w4 := ((hB1.trans (hB2.mono (Nat.le_refl _))).trans hB3).trans (hB4.mono (Nat.le_trans hB1.size (Nat.le_trans hB2.size hB3.size)))
  go_wp2_with fail
  have hlit := lit_slice w4 [⟨#[107]⟩, ⟨#[112]⟩, ⟨#[115]⟩] (by decide)
  have hB5 : Below w4.heap.size w4 (w4.alloc (.cells #[.string ⟨#[107]⟩, .string ⟨#[112]⟩, .string ⟨#[115]⟩] 9)) := below_alloc (Below.refl _ _) _
  have cT := X.supercargoref26_Texts.calls 4 A c [⟨#[107]⟩, ⟨#[112]⟩, ⟨#[115]⟩] (some ⟨w4.heap.size, 0, none⟩) 3 [⟨#[107]⟩, ⟨#[112]⟩, ⟨#[115]⟩] true _ (Kd.C_below hC hB5) hc hlit (Nat.le_refl _) (texts_f _ (by decide) 4 (by decide))
  refine cT.mono ?_
  rintro e w6 ⟨rfl, nd, rfl⟩
  have hb6 : IsBill ((w4.alloc (.cells #[.string ⟨#[107]⟩, .string ⟨#[112]⟩, .string ⟨#[115]⟩] 9)).drewN nd) w.heap.size g m d0 s2 := (hb4.below hB5).below (pw_below_drewN (Below.refl _ _) nd)
  have cH := Holder_any _ w.heap.size g m d0 s2 hb6
  go_wp2_with fail
  refine cH.mono ?_
  rintro e w7 ⟨rfl, rfl⟩
  go_wp2_with fail
  go_ret
  exact ⟨by simp only [s2, ByteArray.toList_eq]; rfl, pw_below_drewN (hB04.alloc hB04.size _) nd⟩
end Go.Proofs.YtcmjgkmnbenniaaGreatDoor.Ext
