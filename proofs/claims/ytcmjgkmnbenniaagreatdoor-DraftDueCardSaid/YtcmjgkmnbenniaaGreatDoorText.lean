/- draft.Text, in the form in which the printed functions take it. Written by wip/ztext.py. -/
import Derived.Test.YtcmjgkmnbenniaaGreatDoorXx2
import Derived.Test.YtcmjgkmnbenniaaGreatDoorXx14
import Derived.Lib.ItoaLen
namespace Go.Proofs.YtcmjgkmnbenniaaGreatDoor.Ext
open Go.RowKit Go.Proofs.YtcmjgkmnbenniaaGreatDoorW.PrintWords Go.Proofs.YtcmjgkmnbenniaaGreatDoorW.PrintLast
theorem below_upY {w w1 w2 : World} (h : Below w.heap.size w w1) (k : Below w1.heap.size w1 w2) : Below w.heap.size w w2 := h.trans (k.mono h.size)
theorem itoaY (n : Int) (h0 : -9223372036854775808 ≤ n) (h1 : n ≤ 9223372036854775807) (w : World) (HT : TB w) :
    Calls Tryz.prog 30 #[.int .i64 n] w fun e w' => e = .returned (.string ⟨(Lib.itoa n).toArray⟩) ∧ Below w.heap.size w w' :=
  (Tryz.strconv_Itoa n h0 h1 w HT.here).mono fun _ _ ⟨he, k, os, hw⟩ => ⟨he, hw ▸ Lib.below_grow _ w (Nat.le_refl _) k os⟩
/-- Eight texts, a blank between each two. -/
def join8B (l : List ByteArray) : ByteArray := ⟨(Lib.join (l.map (·.data.toList)) [32]).toArray⟩
theorem join8 (b : Nat) (t0 t1 t2 t3 t4 t5 t6 t7 : ByteArray) (w : World) (hb : w.heap[b]? = some (.cells #[.string t0, .string t1, .string t2, .string t3, .string t4, .string t5, .string t6, .string t7] 9 (0, 0))) (hl : (join8B [t0, t1, t2, t3, t4, t5, t6, t7]).size ≤ 100000) :
    Calls Tryz.prog 29 #[.slice (some ⟨b, 0, none⟩) 8 8, .string ⟨#[32]⟩] w fun e w' => e = .returned (.string (join8B [t0, t1, t2, t3, t4, t5, t6, t7])) ∧ Below w.heap.size w w' := by
  refine Tryz.strings_Join b 0 8 [t0, t1, t2, t3, t4, t5, t6, t7] ⟨#[32]⟩ w (fun j x hx => ?_) (blk_lt hb) (by simp) (by simp) ?_
  · rw [Nat.zero_add]
    refine (blk_cell hb j).trans ?_
    match j, hx with
    | 0, hx => simpa using hx
    | 1, hx => simpa using hx
    | 2, hx => simpa using hx
    | 3, hx => simpa using hx
    | 4, hx => simpa using hx
    | 5, hx => simpa using hx
    | 6, hx => simpa using hx
    | 7, hx => simpa using hx
  · show (Lib.join ([t0, t1, t2, t3, t4, t5, t6, t7].map (·.data.toList)) [32]).length ≤ _
    have : (join8B [t0, t1, t2, t3, t4, t5, t6, t7]).size = (Lib.join ([t0, t1, t2, t3, t4, t5, t6, t7].map (·.data.toList)) [32]).length := by simp [join8B, ByteArray.size]
    omega
def textB (a0 a1 a2 a3 m : ByteArray) (k a7 a8 : Int) : ByteArray := join8B [a0, a1, a2, a3, m, kindB k.toNat, ⟨(Lib.itoa a7).toArray⟩, ⟨(Lib.itoa a8).toArray⟩]
def draft_Text.f (a0 a1 a2 a3 a4 : ByteArray) (a5 a6 a7 a8 : Int) : Option ByteArray :=
  (X.draft_May.f 10 a0 a1 a2 a3 a4 a5 a6 a7 a8).bind fun t => if t = true then (X.money_Text.f 10 a4 a5).bind fun m =>
    if (a6 = 0 ∨ a6 = 1 ∨ a6 = 2) ∧ (-9223372036854775808 ≤ a7 ∧ a7 ≤ 9223372036854775807) ∧ (-9223372036854775808 ≤ a8 ∧ a8 ≤ 9223372036854775807) ∧ (textB a0 a1 a2 a3 m a6 a7 a8).size ≤ 100000 then some (textB a0 a1 a2 a3 m a6 a7 a8) else none
  else some ⟨#[]⟩
set_option maxHeartbeats 16000000 in
set_option maxRecDepth 100000 in
theorem draft_Text.calls (a0 a1 a2 a3 a4 : ByteArray) (a5 a6 a7 a8 : Int) (r : ByteArray) (w : World) (h : draft_Text.f a0 a1 a2 a3 a4 a5 a6 a7 a8 = some r) (HT : TB w) :
    Calls Tryz.prog 11 #[.agg #[.string a0, .string a1, .string a2, .string a3, .string a4, .int .i64 a5, .int .i64 a6, .int .i64 a7, .int .i64 a8]] w fun e w' => e = .returned (.string r) ∧ Below w.heap.size w w' := by
  have hu := Tryz.underlying28
  have hBx : Below w.heap.size w (w.alloc (.cells #[.string a0, .string a1, .string a2, .string a3, .string a4, .int .i64 a5, .int .i64 a6, .int .i64 a7, .int .i64 a8] 28)) := below_alloc (Below.refl _ _) _
  have hbox := blk_new w (.cells #[.string a0, .string a1, .string a2, .string a3, .string a4, .int .i64 a5, .int .i64 a6, .int .i64 a7, .int .i64 a8] 28)
  unfold draft_Text.f at h
  obtain ⟨t, ht, h⟩ := Option.bind_eq_some_iff.1 h
  have cM := X.draft_May.calls 10 a0 a1 a2 a3 a4 a5 a6 a7 a8 t (w.alloc (.cells #[.string a0, .string a1, .string a2, .string a3, .string a4, .int .i64 a5, .int .i64 a6, .int .i64 a7, .int .i64 a8] 28)) ht
  clear ht
  cases t with
  | false =>
    rw [if_neg (by simp)] at h
    obtain rfl := Option.some.inj h
    clear h
    go_enter Tryz.func11, Tryz.ntmps11
    go_wp2_with fail
    refine cM.mono ?_
    rintro e w1 ⟨rfl, hB1⟩
    go_wp2_with fail
    go_ret
    exact ⟨rfl, below_upY hBx hB1⟩
  | true =>
    rw [if_pos rfl] at h
    obtain ⟨m, hm, h⟩ := Option.bind_eq_some_iff.1 h
    split at h
    · rename_i hc
      obtain ⟨hk, ⟨i1, i2⟩, ⟨i3, i4⟩, hjl⟩ := hc
      obtain rfl := Option.some.inj h
      clear h
      have hK := HT
      rcases hk with rfl | rfl | rfl
      · go_enter Tryz.func11, Tryz.ntmps11
        go_wp2_with fail
        refine cM.mono ?_
        rintro e W1 ⟨rfl, hB1'⟩
        have hB0 := below_upY hBx hB1'
        replace hbox := blk_below hbox hB1'
        have q0 : W1.cell? ⟨w.heap.size, 0, none⟩ = some (.string a0) := (blk_cell hbox 0).trans rfl
        have q1 : W1.cell? ⟨w.heap.size, 1, none⟩ = some (.string a1) := (blk_cell hbox 1).trans rfl
        have q2 : W1.cell? ⟨w.heap.size, 2, none⟩ = some (.string a2) := (blk_cell hbox 2).trans rfl
        have q3 : W1.cell? ⟨w.heap.size, 3, none⟩ = some (.string a3) := (blk_cell hbox 3).trans rfl
        have q4 : W1.cell? ⟨w.heap.size, 4, none⟩ = some (.string a4) := (blk_cell hbox 4).trans rfl
        have q5 : W1.cell? ⟨w.heap.size, 5, none⟩ = some (.int .i64 a5) := (blk_cell hbox 5).trans rfl
        have q6 : W1.cell? ⟨w.heap.size, 6, none⟩ = some (.int .i64 0) := (blk_cell hbox 6).trans rfl
        have q7 : W1.cell? ⟨w.heap.size, 7, none⟩ = some (.int .i64 a7) := (blk_cell hbox 7).trans rfl
        have q8 : W1.cell? ⟨w.heap.size, 8, none⟩ = some (.int .i64 a8) := (blk_cell hbox 8).trans rfl
        have qk : W1.cell? ⟨0, 0, none⟩ = some (.string (kindB 0)) := (HT.below hB0).kinds.1
        clear hbox cM hB1' hK
        go_wp2_with fail
        refine start_ (n := 24) (S := fun w' => w'.cell? ⟨w.heap.size, 0, none⟩ = some (.string a0) ∧ w'.cell? ⟨w.heap.size, 1, none⟩ = some (.string a1) ∧ w'.cell? ⟨w.heap.size, 2, none⟩ = some (.string a2) ∧ w'.cell? ⟨w.heap.size, 3, none⟩ = some (.string a3) ∧ w'.cell? ⟨w.heap.size, 4, none⟩ = some (.string a4) ∧ w'.cell? ⟨w.heap.size, 5, none⟩ = some (.int .i64 a5) ∧ w'.cell? ⟨w.heap.size, 6, none⟩ = some (.int .i64 0) ∧ w'.cell? ⟨w.heap.size, 7, none⟩ = some (.int .i64 a7) ∧ w'.cell? ⟨w.heap.size, 8, none⟩ = some (.int .i64 a8) ∧ w'.cell? ⟨0, 0, none⟩ = some (.string (kindB 0))) (ds := []) #[false, false, false, false, false, false, false, false, false, false, false, false, false, false, false, false, false, false, false, false, false, false, false, false] (by kernel_rfl) rfl rfl ?_ (fun hHeld => ?_)
        · exact ⟨q0, q1, q2, q3, q4, q5, q6, q7, q8, qk⟩
        have hB1 : Below w.heap.size w W1.drew := below_drew hB0
        clear q0 q1 q2 q3 q4 q5 q6 q7 q8 qk
        generalize W1.drew = W2 at hHeld hB1 ⊢
        refine take_ (i := 0) (N := some 6) (v := ?_) (a' := ?_) #[true, false, false, false, false, false, false, false, false, false, false, false, false, false, false, false, false, false, false, false, false, false, false, false] rfl rfl (by kernel_rfl) (fun _ _ _ h => h) (Or.inl ⟨by rfl, ?_⟩) hHeld ?_ ?_
        rotate_left
        · rintro w' ⟨s0, s1, s2, s3, s4, s5, s6, s7, s8, s9⟩
          go_simp
          with_reducible rfl
        rotate_left
        · simp only [Act.put, List.setIfInBounds_toArray, List.set_cons_zero, List.set_cons_succ]
          rfl
        refine take_ (i := 1) (N := some 7) (v := ?_) (a' := ?_) #[true, true, false, false, false, false, false, false, false, false, false, false, false, false, false, false, false, false, false, false, false, false, false, false] rfl rfl (by kernel_rfl) (fun _ _ _ h => h) (Or.inl ⟨by rfl, ?_⟩) hHeld ?_ ?_
        rotate_left
        · rintro w' ⟨s0, s1, s2, s3, s4, s5, s6, s7, s8, s9⟩
          go_simp
          with_reducible rfl
        rotate_left
        · simp only [Act.put, List.setIfInBounds_toArray, List.set_cons_zero, List.set_cons_succ]
          rfl
        refine take_ (i := 2) (N := some 8) (v := ?_) (a' := ?_) #[true, true, true, false, false, false, false, false, false, false, false, false, false, false, false, false, false, false, false, false, false, false, false, false] rfl rfl (by kernel_rfl) (fun _ _ _ h => h) (Or.inl ⟨by rfl, ?_⟩) hHeld ?_ ?_
        rotate_left
        · rintro w' ⟨s0, s1, s2, s3, s4, s5, s6, s7, s8, s9⟩
          go_simp
          with_reducible rfl
        rotate_left
        · simp only [Act.put, List.setIfInBounds_toArray, List.set_cons_zero, List.set_cons_succ]
          rfl
        refine take_ (i := 3) (N := some 9) (v := ?_) (a' := ?_) #[true, true, true, true, false, false, false, false, false, false, false, false, false, false, false, false, false, false, false, false, false, false, false, false] rfl rfl (by kernel_rfl) (fun _ _ _ h => h) (Or.inl ⟨by rfl, ?_⟩) hHeld ?_ ?_
        rotate_left
        · rintro w' ⟨s0, s1, s2, s3, s4, s5, s6, s7, s8, s9⟩
          go_simp
          with_reducible rfl
        rotate_left
        · simp only [Act.put, List.setIfInBounds_toArray, List.set_cons_zero, List.set_cons_succ]
          rfl
        refine take_ (i := 4) (N := some 10) (v := ?_) (a' := ?_) #[true, true, true, true, true, false, false, false, false, false, false, false, false, false, false, false, false, false, false, false, false, false, false, false] rfl rfl (by kernel_rfl) (fun _ _ _ h => h) (Or.inl ⟨by rfl, ?_⟩) hHeld ?_ ?_
        rotate_left
        · rintro w' ⟨s0, s1, s2, s3, s4, s5, s6, s7, s8, s9⟩
          go_simp
          with_reducible rfl
        rotate_left
        · simp only [Act.put, List.setIfInBounds_toArray, List.set_cons_zero, List.set_cons_succ]
          rfl
        refine take_ (i := 5) (N := some 11) (v := ?_) (a' := ?_) #[true, true, true, true, true, true, false, false, false, false, false, false, false, false, false, false, false, false, false, false, false, false, false, false] rfl rfl (by kernel_rfl) (fun _ _ _ h => h) (Or.inl ⟨by rfl, ?_⟩) hHeld ?_ ?_
        rotate_left
        · rintro w' ⟨s0, s1, s2, s3, s4, s5, s6, s7, s8, s9⟩
          go_simp
          with_reducible rfl
        rotate_left
        · simp only [Act.put, List.setIfInBounds_toArray, List.set_cons_zero, List.set_cons_succ]
          rfl
        refine take_ (i := 6) (N := some 12) (v := ?_) (a' := ?_) #[true, true, true, true, true, true, true, false, false, false, false, false, false, false, false, false, false, false, false, false, false, false, false, false] rfl rfl (by kernel_rfl) (fun _ _ _ h => h) (Or.inl ⟨by rfl, ?_⟩) hHeld ?_ ?_
        rotate_left
        · rintro w' ⟨s0, s1, s2, s3, s4, s5, s6, s7, s8, s9⟩
          go_simp
          with_reducible rfl
        rotate_left
        · simp only [Act.put, List.setIfInBounds_toArray, List.set_cons_zero, List.set_cons_succ]
          rfl
        refine take_ (i := 7) (N := some 13) (v := ?_) (a' := ?_) #[true, true, true, true, true, true, true, true, false, false, false, false, false, false, false, false, false, false, false, false, false, false, false, false] rfl rfl (by kernel_rfl) (fun _ _ _ h => h) (Or.inl ⟨by rfl, ?_⟩) hHeld ?_ ?_
        rotate_left
        · rintro w' ⟨s0, s1, s2, s3, s4, s5, s6, s7, s8, s9⟩
          go_simp
          with_reducible rfl
        rotate_left
        · simp only [Act.put, List.setIfInBounds_toArray, List.set_cons_zero, List.set_cons_succ]
          rfl
        refine take_ (i := 8) (N := some 14) (v := ?_) (a' := ?_) #[true, true, true, true, true, true, true, true, true, false, false, false, false, false, false, false, false, false, false, false, false, false, false, false] rfl rfl (by kernel_rfl) (fun _ _ _ h => h) (Or.inl ⟨by rfl, ?_⟩) hHeld ?_ ?_
        rotate_left
        · rintro w' ⟨s0, s1, s2, s3, s4, s5, s6, s7, s8, s9⟩
          go_simp
          with_reducible rfl
        rotate_left
        · simp only [Act.put, List.setIfInBounds_toArray, List.set_cons_zero, List.set_cons_succ]
          rfl
        refine take_ (i := 9) (N := some 15) (v := ?_) (a' := ?_) #[true, true, true, true, true, true, true, true, true, true, false, false, false, false, false, false, false, false, false, false, false, false, false, false] rfl rfl (by kernel_rfl) (fun _ _ _ h => h) (Or.inl ⟨by rfl, ?_⟩) hHeld ?_ ?_
        rotate_left
        · rintro w' ⟨s0, s1, s2, s3, s4, s5, s6, s7, s8, s9⟩
          go_simp
          with_reducible rfl
        rotate_left
        · simp only [Act.put, List.setIfInBounds_toArray, List.set_cons_zero, List.set_cons_succ]
          rfl
        refine take_ (i := 11) (N := some 17) (v := ?_) (a' := ?_) #[true, true, true, true, true, true, true, true, true, true, false, true, false, false, false, false, false, false, false, false, false, false, false, false] rfl rfl (by kernel_rfl) (fun _ _ _ h => h) (Or.inl ⟨by rfl, ?_⟩) hHeld ?_ ?_
        rotate_left
        · rintro w' ⟨s0, s1, s2, s3, s4, s5, s6, s7, s8, s9⟩
          go_simp
          with_reducible rfl
        rotate_left
        · simp only [Act.put, List.setIfInBounds_toArray, List.set_cons_zero, List.set_cons_succ]
          rfl
        refine take_ (i := 12) (N := some 18) (v := ?_) (a' := ?_) #[true, true, true, true, true, true, true, true, true, true, false, true, true, false, false, false, false, false, false, false, false, false, false, false] rfl rfl (by kernel_rfl) (fun _ _ _ h => h) (Or.inl ⟨by rfl, ?_⟩) hHeld ?_ ?_
        rotate_left
        · rintro w' ⟨s0, s1, s2, s3, s4, s5, s6, s7, s8, s9⟩
          go_simp
          with_reducible rfl
        rotate_left
        · simp only [Act.put, List.setIfInBounds_toArray, List.set_cons_zero, List.set_cons_succ]
          rfl
        refine take_ (i := 13) (N := some 19) (v := ?_) (a' := ?_) #[true, true, true, true, true, true, true, true, true, true, false, true, true, true, false, false, false, false, false, false, false, false, false, false] rfl rfl (by kernel_rfl) (fun _ _ _ h => h) (Or.inl ⟨by rfl, ?_⟩) hHeld ?_ ?_
        rotate_left
        · rintro w' ⟨s0, s1, s2, s3, s4, s5, s6, s7, s8, s9⟩
          go_simp
          with_reducible rfl
        rotate_left
        · simp only [Act.put, List.setIfInBounds_toArray, List.set_cons_zero, List.set_cons_succ]
          rfl
        refine take_ (i := 14) (N := some 20) (v := ?_) (a' := ?_) #[true, true, true, true, true, true, true, true, true, true, false, true, true, true, true, false, false, false, false, false, false, false, false, false] rfl rfl (by kernel_rfl) (fun _ _ _ h => h) (Or.inl ⟨by rfl, ?_⟩) hHeld ?_ ?_
        rotate_left
        · rintro w' ⟨s0, s1, s2, s3, s4, s5, s6, s7, s8, s9⟩
          go_simp
          with_reducible rfl
        rotate_left
        · simp only [Act.put, List.setIfInBounds_toArray, List.set_cons_zero, List.set_cons_succ]
          rfl
        refine take_ (i := 15) (N := some 21) (v := ?_) (a' := ?_) #[true, true, true, true, true, true, true, true, true, true, false, true, true, true, true, true, false, false, false, false, false, false, false, false] rfl rfl (by kernel_rfl) (fun _ _ _ h => h) (Or.inl ⟨by rfl, ?_⟩) hHeld ?_ ?_
        rotate_left
        · rintro w' ⟨s0, s1, s2, s3, s4, s5, s6, s7, s8, s9⟩
          go_simp
          with_reducible rfl
        rotate_left
        · simp only [Act.put, List.setIfInBounds_toArray, List.set_cons_zero, List.set_cons_succ]
          rfl
        refine take_ (i := 16) (N := some 22) (v := ?_) (a' := ?_) #[true, true, true, true, true, true, true, true, true, true, false, true, true, true, true, true, true, false, false, false, false, false, false, false] rfl rfl (by kernel_rfl) (fun _ _ _ h => h) (Or.inl ⟨by rfl, ?_⟩) hHeld ?_ ?_
        rotate_left
        · rintro w' ⟨s0, s1, s2, s3, s4, s5, s6, s7, s8, s9⟩
          go_simp
          with_reducible rfl
        rotate_left
        · simp only [Act.put, List.setIfInBounds_toArray, List.set_cons_zero, List.set_cons_succ]
          rfl
        refine take_ (i := 18) (N := some 24) (v := ?_) (a' := ?_) #[true, true, true, true, true, true, true, true, true, true, false, true, true, true, true, true, true, false, true, false, false, false, false, false] rfl rfl (by kernel_rfl) (fun _ _ _ h => h) (Or.inl ⟨by rfl, ?_⟩) hHeld ?_ ?_
        rotate_left
        · rintro w' ⟨s0, s1, s2, s3, s4, s5, s6, s7, s8, s9⟩
          go_simp
          with_reducible rfl
        rotate_left
        · simp only [Act.put, List.setIfInBounds_toArray, List.set_cons_zero, List.set_cons_succ]
          rfl
        refine take_ (i := 19) (N := some 25) (v := ?_) (a' := ?_) #[true, true, true, true, true, true, true, true, true, true, false, true, true, true, true, true, true, false, true, true, false, false, false, false] rfl rfl (by kernel_rfl) (fun _ _ _ h => h) (Or.inl ⟨by rfl, ?_⟩) hHeld ?_ ?_
        rotate_left
        · rintro w' ⟨s0, s1, s2, s3, s4, s5, s6, s7, s8, s9⟩
          go_simp
          with_reducible rfl
        rotate_left
        · simp only [Act.put, List.setIfInBounds_toArray, List.set_cons_zero, List.set_cons_succ]
          rfl
        refine one_ (i := 10) (N := some 16) #[true, true, true, true, true, true, true, true, true, true, true, true, true, true, true, true, true, false, true, true, false, false, false, false] rfl rfl (by kernel_rfl) (by decide) (fun K hK => ?_)
        refine goes_ Tryz.func12 (by kernel_rfl) rfl #[.agg #[.string a4, .int .i64 a5]] (by rfl) rfl rfl (by (try simp only [List.map_toArray, List.map_cons, List.map_nil]); first | done | rfl) ?_
        refine (X.money_Text.calls 10 a4 a5 m W2 hm (HT.below hB1)).mono ?_
        rintro e W3 ⟨rfl, hb3⟩
        refine ⟨_, rfl, ?_⟩
        refine hK.out _ _ ⟨keepy hb3 hHeld.1, keepy hb3 hHeld.2.1, keepy hb3 hHeld.2.2.1, keepy hb3 hHeld.2.2.2.1, keepy hb3 hHeld.2.2.2.2.1, keepy hb3 hHeld.2.2.2.2.2.1, keepy hb3 hHeld.2.2.2.2.2.2.1, keepy hb3 hHeld.2.2.2.2.2.2.2.1, keepy hb3 hHeld.2.2.2.2.2.2.2.2.1, keepy hb3 hHeld.2.2.2.2.2.2.2.2.2⟩ (fun hHeld => ?_)
        clear hK K
        refine norm_ (a' := ?_) ?_ ?_
        rotate_left
        · show Act.put _ (some 16) _ = _
          simp only [Act.put, List.setIfInBounds_toArray, List.set_cons_zero, List.set_cons_succ]
          rfl
        have hB3 := below_upY hB1 hb3
        refine one_ (i := 17) (N := some 23) #[true, true, true, true, true, true, true, true, true, true, true, true, true, true, true, true, true, true, true, true, false, false, false, false] rfl rfl (by kernel_rfl) (by decide) (fun K hK => ?_)
        refine goes_ Tryz.func30 (by kernel_rfl) rfl #[.int .i64 a7] (by rfl) rfl rfl (by (try simp only [List.map_toArray, List.map_cons, List.map_nil]); first | done | rfl) ?_
        refine (itoaY a7 i1 i2 W3 (HT.below hB3)).mono ?_
        rintro e W4 ⟨rfl, hb4⟩
        refine ⟨_, rfl, ?_⟩
        refine hK.out _ _ ⟨keepy hb4 hHeld.1, keepy hb4 hHeld.2.1, keepy hb4 hHeld.2.2.1, keepy hb4 hHeld.2.2.2.1, keepy hb4 hHeld.2.2.2.2.1, keepy hb4 hHeld.2.2.2.2.2.1, keepy hb4 hHeld.2.2.2.2.2.2.1, keepy hb4 hHeld.2.2.2.2.2.2.2.1, keepy hb4 hHeld.2.2.2.2.2.2.2.2.1, keepy hb4 hHeld.2.2.2.2.2.2.2.2.2⟩ (fun hHeld => ?_)
        clear hK K
        refine norm_ (a' := ?_) ?_ ?_
        rotate_left
        · show Act.put _ (some 23) _ = _
          simp only [Act.put, List.setIfInBounds_toArray, List.set_cons_zero, List.set_cons_succ]
          rfl
        have hB4 := below_upY hB3 hb4
        refine one_ (i := 20) (N := some 26) #[true, true, true, true, true, true, true, true, true, true, true, true, true, true, true, true, true, true, true, true, true, false, false, false] rfl rfl (by kernel_rfl) (by decide) (fun K hK => ?_)
        refine goes_ Tryz.func30 (by kernel_rfl) rfl #[.int .i64 a8] (by rfl) rfl rfl (by (try simp only [List.map_toArray, List.map_cons, List.map_nil]); first | done | rfl) ?_
        refine (itoaY a8 i3 i4 W4 (HT.below hB4)).mono ?_
        rintro e W5 ⟨rfl, hb5⟩
        refine ⟨_, rfl, ?_⟩
        refine hK.out _ _ ⟨keepy hb5 hHeld.1, keepy hb5 hHeld.2.1, keepy hb5 hHeld.2.2.1, keepy hb5 hHeld.2.2.2.1, keepy hb5 hHeld.2.2.2.2.1, keepy hb5 hHeld.2.2.2.2.2.1, keepy hb5 hHeld.2.2.2.2.2.2.1, keepy hb5 hHeld.2.2.2.2.2.2.2.1, keepy hb5 hHeld.2.2.2.2.2.2.2.2.1, keepy hb5 hHeld.2.2.2.2.2.2.2.2.2⟩ (fun hHeld => ?_)
        clear hK K
        refine norm_ (a' := ?_) ?_ ?_
        rotate_left
        · show Act.put _ (some 26) _ = _
          simp only [Act.put, List.setIfInBounds_toArray, List.set_cons_zero, List.set_cons_succ]
          rfl
        have hB5 := below_upY hB4 hb5
        refine one_ (i := 21) (N := some 27) #[true, true, true, true, true, true, true, true, true, true, true, true, true, true, true, true, true, true, true, true, true, true, false, false] rfl rfl (by kernel_rfl) (by decide) (fun K hK => ?_)
        refine value_ (by rfl) rfl (by go_simp; first | done | exact ⟨rfl, rfl⟩ | rfl) ?_
        have hb6 : Below W5.heap.size W5 (W5.alloc (.cells #[.string a0, .string a1, .string a2, .string a3, .string m, .string (kindB 0), .string ⟨(Lib.itoa a7).toArray⟩, .string ⟨(Lib.itoa a8).toArray⟩] 9)) := below_alloc (Below.refl _ _) _
        have hbk := blk_new W5 (.cells #[.string a0, .string a1, .string a2, .string a3, .string m, .string (kindB 0), .string ⟨(Lib.itoa a7).toArray⟩, .string ⟨(Lib.itoa a8).toArray⟩] 9)
        generalize W5.alloc (.cells #[.string a0, .string a1, .string a2, .string a3, .string m, .string (kindB 0), .string ⟨(Lib.itoa a7).toArray⟩, .string ⟨(Lib.itoa a8).toArray⟩] 9) = W6 at hb6 hbk ⊢
        refine hK.out _ _ ⟨keepy hb6 hHeld.1, keepy hb6 hHeld.2.1, keepy hb6 hHeld.2.2.1, keepy hb6 hHeld.2.2.2.1, keepy hb6 hHeld.2.2.2.2.1, keepy hb6 hHeld.2.2.2.2.2.1, keepy hb6 hHeld.2.2.2.2.2.2.1, keepy hb6 hHeld.2.2.2.2.2.2.2.1, keepy hb6 hHeld.2.2.2.2.2.2.2.2.1, keepy hb6 hHeld.2.2.2.2.2.2.2.2.2⟩ (fun hHeld => ?_)
        clear hK K
        refine norm_ (a' := ?_) ?_ ?_
        rotate_left
        · show Act.put _ (some 27) _ = _
          simp only [Act.put, List.setIfInBounds_toArray, List.set_cons_zero, List.set_cons_succ]
          rfl
        have hB6 := below_upY hB5 hb6
        refine one_ (i := 22) (N := some 28) #[true, true, true, true, true, true, true, true, true, true, true, true, true, true, true, true, true, true, true, true, true, true, true, false] rfl rfl (by kernel_rfl) (by decide) (fun K hK => ?_)
        refine goes_ Tryz.func29 (by kernel_rfl) rfl #[.slice (some ⟨W5.heap.size, 0, none⟩) 8 8, .string ⟨#[32]⟩] (by rfl) rfl rfl (by (try simp only [List.map_toArray, List.map_cons, List.map_nil]); first | done | rfl) ?_
        refine (join8 W5.heap.size _ _ _ _ _ _ _ _ W6 hbk hjl).mono ?_
        rintro e W7 ⟨rfl, hb7⟩
        refine ⟨_, rfl, ?_⟩
        refine hK.out _ _ ⟨keepy hb7 hHeld.1, keepy hb7 hHeld.2.1, keepy hb7 hHeld.2.2.1, keepy hb7 hHeld.2.2.2.1, keepy hb7 hHeld.2.2.2.2.1, keepy hb7 hHeld.2.2.2.2.2.1, keepy hb7 hHeld.2.2.2.2.2.2.1, keepy hb7 hHeld.2.2.2.2.2.2.2.1, keepy hb7 hHeld.2.2.2.2.2.2.2.2.1, keepy hb7 hHeld.2.2.2.2.2.2.2.2.2⟩ (fun hHeld => ?_)
        clear hK K
        refine norm_ (a' := ?_) ?_ ?_
        rotate_left
        · show Act.put _ (some 28) _ = _
          simp only [Act.put, List.setIfInBounds_toArray, List.set_cons_zero, List.set_cons_succ]
          rfl
        have hB7 := below_upY hB6 hb7
        refine pure_ (i := 23) (N := some 2) (v := ?_) (a' := ?_) #[true, true, true, true, true, true, true, true, true, true, true, true, true, true, true, true, true, true, true, true, true, true, true, true] rfl rfl (by kernel_rfl) (fun _ _ _ h => h) (Or.inl ⟨by rfl, ?_⟩) ?_ ?_
        rotate_left
        · intro w'
          go_simp
          with_reducible rfl
        rotate_left
        · simp only [Act.put, List.setIfInBounds_toArray, List.set_cons_zero, List.set_cons_succ]
          rfl
        refine done_ (by kernel_rfl) ?_
        go_wp2_with fail
        go_ret
        exact ⟨rfl, hB7⟩
      · go_enter Tryz.func11, Tryz.ntmps11
        go_wp2_with fail
        refine cM.mono ?_
        rintro e W1 ⟨rfl, hB1'⟩
        have hB0 := below_upY hBx hB1'
        replace hbox := blk_below hbox hB1'
        have q0 : W1.cell? ⟨w.heap.size, 0, none⟩ = some (.string a0) := (blk_cell hbox 0).trans rfl
        have q1 : W1.cell? ⟨w.heap.size, 1, none⟩ = some (.string a1) := (blk_cell hbox 1).trans rfl
        have q2 : W1.cell? ⟨w.heap.size, 2, none⟩ = some (.string a2) := (blk_cell hbox 2).trans rfl
        have q3 : W1.cell? ⟨w.heap.size, 3, none⟩ = some (.string a3) := (blk_cell hbox 3).trans rfl
        have q4 : W1.cell? ⟨w.heap.size, 4, none⟩ = some (.string a4) := (blk_cell hbox 4).trans rfl
        have q5 : W1.cell? ⟨w.heap.size, 5, none⟩ = some (.int .i64 a5) := (blk_cell hbox 5).trans rfl
        have q6 : W1.cell? ⟨w.heap.size, 6, none⟩ = some (.int .i64 1) := (blk_cell hbox 6).trans rfl
        have q7 : W1.cell? ⟨w.heap.size, 7, none⟩ = some (.int .i64 a7) := (blk_cell hbox 7).trans rfl
        have q8 : W1.cell? ⟨w.heap.size, 8, none⟩ = some (.int .i64 a8) := (blk_cell hbox 8).trans rfl
        have qk : W1.cell? ⟨0, 1, none⟩ = some (.string (kindB 1)) := (HT.below hB0).kinds.2.1
        clear hbox cM hB1' hK
        go_wp2_with fail
        refine start_ (n := 24) (S := fun w' => w'.cell? ⟨w.heap.size, 0, none⟩ = some (.string a0) ∧ w'.cell? ⟨w.heap.size, 1, none⟩ = some (.string a1) ∧ w'.cell? ⟨w.heap.size, 2, none⟩ = some (.string a2) ∧ w'.cell? ⟨w.heap.size, 3, none⟩ = some (.string a3) ∧ w'.cell? ⟨w.heap.size, 4, none⟩ = some (.string a4) ∧ w'.cell? ⟨w.heap.size, 5, none⟩ = some (.int .i64 a5) ∧ w'.cell? ⟨w.heap.size, 6, none⟩ = some (.int .i64 1) ∧ w'.cell? ⟨w.heap.size, 7, none⟩ = some (.int .i64 a7) ∧ w'.cell? ⟨w.heap.size, 8, none⟩ = some (.int .i64 a8) ∧ w'.cell? ⟨0, 1, none⟩ = some (.string (kindB 1))) (ds := []) #[false, false, false, false, false, false, false, false, false, false, false, false, false, false, false, false, false, false, false, false, false, false, false, false] (by kernel_rfl) rfl rfl ?_ (fun hHeld => ?_)
        · exact ⟨q0, q1, q2, q3, q4, q5, q6, q7, q8, qk⟩
        have hB1 : Below w.heap.size w W1.drew := below_drew hB0
        clear q0 q1 q2 q3 q4 q5 q6 q7 q8 qk
        generalize W1.drew = W2 at hHeld hB1 ⊢
        refine take_ (i := 0) (N := some 6) (v := ?_) (a' := ?_) #[true, false, false, false, false, false, false, false, false, false, false, false, false, false, false, false, false, false, false, false, false, false, false, false] rfl rfl (by kernel_rfl) (fun _ _ _ h => h) (Or.inl ⟨by rfl, ?_⟩) hHeld ?_ ?_
        rotate_left
        · rintro w' ⟨s0, s1, s2, s3, s4, s5, s6, s7, s8, s9⟩
          go_simp
          with_reducible rfl
        rotate_left
        · simp only [Act.put, List.setIfInBounds_toArray, List.set_cons_zero, List.set_cons_succ]
          rfl
        refine take_ (i := 1) (N := some 7) (v := ?_) (a' := ?_) #[true, true, false, false, false, false, false, false, false, false, false, false, false, false, false, false, false, false, false, false, false, false, false, false] rfl rfl (by kernel_rfl) (fun _ _ _ h => h) (Or.inl ⟨by rfl, ?_⟩) hHeld ?_ ?_
        rotate_left
        · rintro w' ⟨s0, s1, s2, s3, s4, s5, s6, s7, s8, s9⟩
          go_simp
          with_reducible rfl
        rotate_left
        · simp only [Act.put, List.setIfInBounds_toArray, List.set_cons_zero, List.set_cons_succ]
          rfl
        refine take_ (i := 2) (N := some 8) (v := ?_) (a' := ?_) #[true, true, true, false, false, false, false, false, false, false, false, false, false, false, false, false, false, false, false, false, false, false, false, false] rfl rfl (by kernel_rfl) (fun _ _ _ h => h) (Or.inl ⟨by rfl, ?_⟩) hHeld ?_ ?_
        rotate_left
        · rintro w' ⟨s0, s1, s2, s3, s4, s5, s6, s7, s8, s9⟩
          go_simp
          with_reducible rfl
        rotate_left
        · simp only [Act.put, List.setIfInBounds_toArray, List.set_cons_zero, List.set_cons_succ]
          rfl
        refine take_ (i := 3) (N := some 9) (v := ?_) (a' := ?_) #[true, true, true, true, false, false, false, false, false, false, false, false, false, false, false, false, false, false, false, false, false, false, false, false] rfl rfl (by kernel_rfl) (fun _ _ _ h => h) (Or.inl ⟨by rfl, ?_⟩) hHeld ?_ ?_
        rotate_left
        · rintro w' ⟨s0, s1, s2, s3, s4, s5, s6, s7, s8, s9⟩
          go_simp
          with_reducible rfl
        rotate_left
        · simp only [Act.put, List.setIfInBounds_toArray, List.set_cons_zero, List.set_cons_succ]
          rfl
        refine take_ (i := 4) (N := some 10) (v := ?_) (a' := ?_) #[true, true, true, true, true, false, false, false, false, false, false, false, false, false, false, false, false, false, false, false, false, false, false, false] rfl rfl (by kernel_rfl) (fun _ _ _ h => h) (Or.inl ⟨by rfl, ?_⟩) hHeld ?_ ?_
        rotate_left
        · rintro w' ⟨s0, s1, s2, s3, s4, s5, s6, s7, s8, s9⟩
          go_simp
          with_reducible rfl
        rotate_left
        · simp only [Act.put, List.setIfInBounds_toArray, List.set_cons_zero, List.set_cons_succ]
          rfl
        refine take_ (i := 5) (N := some 11) (v := ?_) (a' := ?_) #[true, true, true, true, true, true, false, false, false, false, false, false, false, false, false, false, false, false, false, false, false, false, false, false] rfl rfl (by kernel_rfl) (fun _ _ _ h => h) (Or.inl ⟨by rfl, ?_⟩) hHeld ?_ ?_
        rotate_left
        · rintro w' ⟨s0, s1, s2, s3, s4, s5, s6, s7, s8, s9⟩
          go_simp
          with_reducible rfl
        rotate_left
        · simp only [Act.put, List.setIfInBounds_toArray, List.set_cons_zero, List.set_cons_succ]
          rfl
        refine take_ (i := 6) (N := some 12) (v := ?_) (a' := ?_) #[true, true, true, true, true, true, true, false, false, false, false, false, false, false, false, false, false, false, false, false, false, false, false, false] rfl rfl (by kernel_rfl) (fun _ _ _ h => h) (Or.inl ⟨by rfl, ?_⟩) hHeld ?_ ?_
        rotate_left
        · rintro w' ⟨s0, s1, s2, s3, s4, s5, s6, s7, s8, s9⟩
          go_simp
          with_reducible rfl
        rotate_left
        · simp only [Act.put, List.setIfInBounds_toArray, List.set_cons_zero, List.set_cons_succ]
          rfl
        refine take_ (i := 7) (N := some 13) (v := ?_) (a' := ?_) #[true, true, true, true, true, true, true, true, false, false, false, false, false, false, false, false, false, false, false, false, false, false, false, false] rfl rfl (by kernel_rfl) (fun _ _ _ h => h) (Or.inl ⟨by rfl, ?_⟩) hHeld ?_ ?_
        rotate_left
        · rintro w' ⟨s0, s1, s2, s3, s4, s5, s6, s7, s8, s9⟩
          go_simp
          with_reducible rfl
        rotate_left
        · simp only [Act.put, List.setIfInBounds_toArray, List.set_cons_zero, List.set_cons_succ]
          rfl
        refine take_ (i := 8) (N := some 14) (v := ?_) (a' := ?_) #[true, true, true, true, true, true, true, true, true, false, false, false, false, false, false, false, false, false, false, false, false, false, false, false] rfl rfl (by kernel_rfl) (fun _ _ _ h => h) (Or.inl ⟨by rfl, ?_⟩) hHeld ?_ ?_
        rotate_left
        · rintro w' ⟨s0, s1, s2, s3, s4, s5, s6, s7, s8, s9⟩
          go_simp
          with_reducible rfl
        rotate_left
        · simp only [Act.put, List.setIfInBounds_toArray, List.set_cons_zero, List.set_cons_succ]
          rfl
        refine take_ (i := 9) (N := some 15) (v := ?_) (a' := ?_) #[true, true, true, true, true, true, true, true, true, true, false, false, false, false, false, false, false, false, false, false, false, false, false, false] rfl rfl (by kernel_rfl) (fun _ _ _ h => h) (Or.inl ⟨by rfl, ?_⟩) hHeld ?_ ?_
        rotate_left
        · rintro w' ⟨s0, s1, s2, s3, s4, s5, s6, s7, s8, s9⟩
          go_simp
          with_reducible rfl
        rotate_left
        · simp only [Act.put, List.setIfInBounds_toArray, List.set_cons_zero, List.set_cons_succ]
          rfl
        refine take_ (i := 11) (N := some 17) (v := ?_) (a' := ?_) #[true, true, true, true, true, true, true, true, true, true, false, true, false, false, false, false, false, false, false, false, false, false, false, false] rfl rfl (by kernel_rfl) (fun _ _ _ h => h) (Or.inl ⟨by rfl, ?_⟩) hHeld ?_ ?_
        rotate_left
        · rintro w' ⟨s0, s1, s2, s3, s4, s5, s6, s7, s8, s9⟩
          go_simp
          with_reducible rfl
        rotate_left
        · simp only [Act.put, List.setIfInBounds_toArray, List.set_cons_zero, List.set_cons_succ]
          rfl
        refine take_ (i := 12) (N := some 18) (v := ?_) (a' := ?_) #[true, true, true, true, true, true, true, true, true, true, false, true, true, false, false, false, false, false, false, false, false, false, false, false] rfl rfl (by kernel_rfl) (fun _ _ _ h => h) (Or.inl ⟨by rfl, ?_⟩) hHeld ?_ ?_
        rotate_left
        · rintro w' ⟨s0, s1, s2, s3, s4, s5, s6, s7, s8, s9⟩
          go_simp
          with_reducible rfl
        rotate_left
        · simp only [Act.put, List.setIfInBounds_toArray, List.set_cons_zero, List.set_cons_succ]
          rfl
        refine take_ (i := 13) (N := some 19) (v := ?_) (a' := ?_) #[true, true, true, true, true, true, true, true, true, true, false, true, true, true, false, false, false, false, false, false, false, false, false, false] rfl rfl (by kernel_rfl) (fun _ _ _ h => h) (Or.inl ⟨by rfl, ?_⟩) hHeld ?_ ?_
        rotate_left
        · rintro w' ⟨s0, s1, s2, s3, s4, s5, s6, s7, s8, s9⟩
          go_simp
          with_reducible rfl
        rotate_left
        · simp only [Act.put, List.setIfInBounds_toArray, List.set_cons_zero, List.set_cons_succ]
          rfl
        refine take_ (i := 14) (N := some 20) (v := ?_) (a' := ?_) #[true, true, true, true, true, true, true, true, true, true, false, true, true, true, true, false, false, false, false, false, false, false, false, false] rfl rfl (by kernel_rfl) (fun _ _ _ h => h) (Or.inl ⟨by rfl, ?_⟩) hHeld ?_ ?_
        rotate_left
        · rintro w' ⟨s0, s1, s2, s3, s4, s5, s6, s7, s8, s9⟩
          go_simp
          with_reducible rfl
        rotate_left
        · simp only [Act.put, List.setIfInBounds_toArray, List.set_cons_zero, List.set_cons_succ]
          rfl
        refine take_ (i := 15) (N := some 21) (v := ?_) (a' := ?_) #[true, true, true, true, true, true, true, true, true, true, false, true, true, true, true, true, false, false, false, false, false, false, false, false] rfl rfl (by kernel_rfl) (fun _ _ _ h => h) (Or.inl ⟨by rfl, ?_⟩) hHeld ?_ ?_
        rotate_left
        · rintro w' ⟨s0, s1, s2, s3, s4, s5, s6, s7, s8, s9⟩
          go_simp
          with_reducible rfl
        rotate_left
        · simp only [Act.put, List.setIfInBounds_toArray, List.set_cons_zero, List.set_cons_succ]
          rfl
        refine take_ (i := 16) (N := some 22) (v := ?_) (a' := ?_) #[true, true, true, true, true, true, true, true, true, true, false, true, true, true, true, true, true, false, false, false, false, false, false, false] rfl rfl (by kernel_rfl) (fun _ _ _ h => h) (Or.inl ⟨by rfl, ?_⟩) hHeld ?_ ?_
        rotate_left
        · rintro w' ⟨s0, s1, s2, s3, s4, s5, s6, s7, s8, s9⟩
          go_simp
          with_reducible rfl
        rotate_left
        · simp only [Act.put, List.setIfInBounds_toArray, List.set_cons_zero, List.set_cons_succ]
          rfl
        refine take_ (i := 18) (N := some 24) (v := ?_) (a' := ?_) #[true, true, true, true, true, true, true, true, true, true, false, true, true, true, true, true, true, false, true, false, false, false, false, false] rfl rfl (by kernel_rfl) (fun _ _ _ h => h) (Or.inl ⟨by rfl, ?_⟩) hHeld ?_ ?_
        rotate_left
        · rintro w' ⟨s0, s1, s2, s3, s4, s5, s6, s7, s8, s9⟩
          go_simp
          with_reducible rfl
        rotate_left
        · simp only [Act.put, List.setIfInBounds_toArray, List.set_cons_zero, List.set_cons_succ]
          rfl
        refine take_ (i := 19) (N := some 25) (v := ?_) (a' := ?_) #[true, true, true, true, true, true, true, true, true, true, false, true, true, true, true, true, true, false, true, true, false, false, false, false] rfl rfl (by kernel_rfl) (fun _ _ _ h => h) (Or.inl ⟨by rfl, ?_⟩) hHeld ?_ ?_
        rotate_left
        · rintro w' ⟨s0, s1, s2, s3, s4, s5, s6, s7, s8, s9⟩
          go_simp
          with_reducible rfl
        rotate_left
        · simp only [Act.put, List.setIfInBounds_toArray, List.set_cons_zero, List.set_cons_succ]
          rfl
        refine one_ (i := 10) (N := some 16) #[true, true, true, true, true, true, true, true, true, true, true, true, true, true, true, true, true, false, true, true, false, false, false, false] rfl rfl (by kernel_rfl) (by decide) (fun K hK => ?_)
        refine goes_ Tryz.func12 (by kernel_rfl) rfl #[.agg #[.string a4, .int .i64 a5]] (by rfl) rfl rfl (by (try simp only [List.map_toArray, List.map_cons, List.map_nil]); first | done | rfl) ?_
        refine (X.money_Text.calls 10 a4 a5 m W2 hm (HT.below hB1)).mono ?_
        rintro e W3 ⟨rfl, hb3⟩
        refine ⟨_, rfl, ?_⟩
        refine hK.out _ _ ⟨keepy hb3 hHeld.1, keepy hb3 hHeld.2.1, keepy hb3 hHeld.2.2.1, keepy hb3 hHeld.2.2.2.1, keepy hb3 hHeld.2.2.2.2.1, keepy hb3 hHeld.2.2.2.2.2.1, keepy hb3 hHeld.2.2.2.2.2.2.1, keepy hb3 hHeld.2.2.2.2.2.2.2.1, keepy hb3 hHeld.2.2.2.2.2.2.2.2.1, keepy hb3 hHeld.2.2.2.2.2.2.2.2.2⟩ (fun hHeld => ?_)
        clear hK K
        refine norm_ (a' := ?_) ?_ ?_
        rotate_left
        · show Act.put _ (some 16) _ = _
          simp only [Act.put, List.setIfInBounds_toArray, List.set_cons_zero, List.set_cons_succ]
          rfl
        have hB3 := below_upY hB1 hb3
        refine one_ (i := 17) (N := some 23) #[true, true, true, true, true, true, true, true, true, true, true, true, true, true, true, true, true, true, true, true, false, false, false, false] rfl rfl (by kernel_rfl) (by decide) (fun K hK => ?_)
        refine goes_ Tryz.func30 (by kernel_rfl) rfl #[.int .i64 a7] (by rfl) rfl rfl (by (try simp only [List.map_toArray, List.map_cons, List.map_nil]); first | done | rfl) ?_
        refine (itoaY a7 i1 i2 W3 (HT.below hB3)).mono ?_
        rintro e W4 ⟨rfl, hb4⟩
        refine ⟨_, rfl, ?_⟩
        refine hK.out _ _ ⟨keepy hb4 hHeld.1, keepy hb4 hHeld.2.1, keepy hb4 hHeld.2.2.1, keepy hb4 hHeld.2.2.2.1, keepy hb4 hHeld.2.2.2.2.1, keepy hb4 hHeld.2.2.2.2.2.1, keepy hb4 hHeld.2.2.2.2.2.2.1, keepy hb4 hHeld.2.2.2.2.2.2.2.1, keepy hb4 hHeld.2.2.2.2.2.2.2.2.1, keepy hb4 hHeld.2.2.2.2.2.2.2.2.2⟩ (fun hHeld => ?_)
        clear hK K
        refine norm_ (a' := ?_) ?_ ?_
        rotate_left
        · show Act.put _ (some 23) _ = _
          simp only [Act.put, List.setIfInBounds_toArray, List.set_cons_zero, List.set_cons_succ]
          rfl
        have hB4 := below_upY hB3 hb4
        refine one_ (i := 20) (N := some 26) #[true, true, true, true, true, true, true, true, true, true, true, true, true, true, true, true, true, true, true, true, true, false, false, false] rfl rfl (by kernel_rfl) (by decide) (fun K hK => ?_)
        refine goes_ Tryz.func30 (by kernel_rfl) rfl #[.int .i64 a8] (by rfl) rfl rfl (by (try simp only [List.map_toArray, List.map_cons, List.map_nil]); first | done | rfl) ?_
        refine (itoaY a8 i3 i4 W4 (HT.below hB4)).mono ?_
        rintro e W5 ⟨rfl, hb5⟩
        refine ⟨_, rfl, ?_⟩
        refine hK.out _ _ ⟨keepy hb5 hHeld.1, keepy hb5 hHeld.2.1, keepy hb5 hHeld.2.2.1, keepy hb5 hHeld.2.2.2.1, keepy hb5 hHeld.2.2.2.2.1, keepy hb5 hHeld.2.2.2.2.2.1, keepy hb5 hHeld.2.2.2.2.2.2.1, keepy hb5 hHeld.2.2.2.2.2.2.2.1, keepy hb5 hHeld.2.2.2.2.2.2.2.2.1, keepy hb5 hHeld.2.2.2.2.2.2.2.2.2⟩ (fun hHeld => ?_)
        clear hK K
        refine norm_ (a' := ?_) ?_ ?_
        rotate_left
        · show Act.put _ (some 26) _ = _
          simp only [Act.put, List.setIfInBounds_toArray, List.set_cons_zero, List.set_cons_succ]
          rfl
        have hB5 := below_upY hB4 hb5
        refine one_ (i := 21) (N := some 27) #[true, true, true, true, true, true, true, true, true, true, true, true, true, true, true, true, true, true, true, true, true, true, false, false] rfl rfl (by kernel_rfl) (by decide) (fun K hK => ?_)
        refine value_ (by rfl) rfl (by go_simp; first | done | exact ⟨rfl, rfl⟩ | rfl) ?_
        have hb6 : Below W5.heap.size W5 (W5.alloc (.cells #[.string a0, .string a1, .string a2, .string a3, .string m, .string (kindB 1), .string ⟨(Lib.itoa a7).toArray⟩, .string ⟨(Lib.itoa a8).toArray⟩] 9)) := below_alloc (Below.refl _ _) _
        have hbk := blk_new W5 (.cells #[.string a0, .string a1, .string a2, .string a3, .string m, .string (kindB 1), .string ⟨(Lib.itoa a7).toArray⟩, .string ⟨(Lib.itoa a8).toArray⟩] 9)
        generalize W5.alloc (.cells #[.string a0, .string a1, .string a2, .string a3, .string m, .string (kindB 1), .string ⟨(Lib.itoa a7).toArray⟩, .string ⟨(Lib.itoa a8).toArray⟩] 9) = W6 at hb6 hbk ⊢
        refine hK.out _ _ ⟨keepy hb6 hHeld.1, keepy hb6 hHeld.2.1, keepy hb6 hHeld.2.2.1, keepy hb6 hHeld.2.2.2.1, keepy hb6 hHeld.2.2.2.2.1, keepy hb6 hHeld.2.2.2.2.2.1, keepy hb6 hHeld.2.2.2.2.2.2.1, keepy hb6 hHeld.2.2.2.2.2.2.2.1, keepy hb6 hHeld.2.2.2.2.2.2.2.2.1, keepy hb6 hHeld.2.2.2.2.2.2.2.2.2⟩ (fun hHeld => ?_)
        clear hK K
        refine norm_ (a' := ?_) ?_ ?_
        rotate_left
        · show Act.put _ (some 27) _ = _
          simp only [Act.put, List.setIfInBounds_toArray, List.set_cons_zero, List.set_cons_succ]
          rfl
        have hB6 := below_upY hB5 hb6
        refine one_ (i := 22) (N := some 28) #[true, true, true, true, true, true, true, true, true, true, true, true, true, true, true, true, true, true, true, true, true, true, true, false] rfl rfl (by kernel_rfl) (by decide) (fun K hK => ?_)
        refine goes_ Tryz.func29 (by kernel_rfl) rfl #[.slice (some ⟨W5.heap.size, 0, none⟩) 8 8, .string ⟨#[32]⟩] (by rfl) rfl rfl (by (try simp only [List.map_toArray, List.map_cons, List.map_nil]); first | done | rfl) ?_
        refine (join8 W5.heap.size _ _ _ _ _ _ _ _ W6 hbk hjl).mono ?_
        rintro e W7 ⟨rfl, hb7⟩
        refine ⟨_, rfl, ?_⟩
        refine hK.out _ _ ⟨keepy hb7 hHeld.1, keepy hb7 hHeld.2.1, keepy hb7 hHeld.2.2.1, keepy hb7 hHeld.2.2.2.1, keepy hb7 hHeld.2.2.2.2.1, keepy hb7 hHeld.2.2.2.2.2.1, keepy hb7 hHeld.2.2.2.2.2.2.1, keepy hb7 hHeld.2.2.2.2.2.2.2.1, keepy hb7 hHeld.2.2.2.2.2.2.2.2.1, keepy hb7 hHeld.2.2.2.2.2.2.2.2.2⟩ (fun hHeld => ?_)
        clear hK K
        refine norm_ (a' := ?_) ?_ ?_
        rotate_left
        · show Act.put _ (some 28) _ = _
          simp only [Act.put, List.setIfInBounds_toArray, List.set_cons_zero, List.set_cons_succ]
          rfl
        have hB7 := below_upY hB6 hb7
        refine pure_ (i := 23) (N := some 2) (v := ?_) (a' := ?_) #[true, true, true, true, true, true, true, true, true, true, true, true, true, true, true, true, true, true, true, true, true, true, true, true] rfl rfl (by kernel_rfl) (fun _ _ _ h => h) (Or.inl ⟨by rfl, ?_⟩) ?_ ?_
        rotate_left
        · intro w'
          go_simp
          with_reducible rfl
        rotate_left
        · simp only [Act.put, List.setIfInBounds_toArray, List.set_cons_zero, List.set_cons_succ]
          rfl
        refine done_ (by kernel_rfl) ?_
        go_wp2_with fail
        go_ret
        exact ⟨rfl, hB7⟩
      · go_enter Tryz.func11, Tryz.ntmps11
        go_wp2_with fail
        refine cM.mono ?_
        rintro e W1 ⟨rfl, hB1'⟩
        have hB0 := below_upY hBx hB1'
        replace hbox := blk_below hbox hB1'
        have q0 : W1.cell? ⟨w.heap.size, 0, none⟩ = some (.string a0) := (blk_cell hbox 0).trans rfl
        have q1 : W1.cell? ⟨w.heap.size, 1, none⟩ = some (.string a1) := (blk_cell hbox 1).trans rfl
        have q2 : W1.cell? ⟨w.heap.size, 2, none⟩ = some (.string a2) := (blk_cell hbox 2).trans rfl
        have q3 : W1.cell? ⟨w.heap.size, 3, none⟩ = some (.string a3) := (blk_cell hbox 3).trans rfl
        have q4 : W1.cell? ⟨w.heap.size, 4, none⟩ = some (.string a4) := (blk_cell hbox 4).trans rfl
        have q5 : W1.cell? ⟨w.heap.size, 5, none⟩ = some (.int .i64 a5) := (blk_cell hbox 5).trans rfl
        have q6 : W1.cell? ⟨w.heap.size, 6, none⟩ = some (.int .i64 2) := (blk_cell hbox 6).trans rfl
        have q7 : W1.cell? ⟨w.heap.size, 7, none⟩ = some (.int .i64 a7) := (blk_cell hbox 7).trans rfl
        have q8 : W1.cell? ⟨w.heap.size, 8, none⟩ = some (.int .i64 a8) := (blk_cell hbox 8).trans rfl
        have qk : W1.cell? ⟨0, 2, none⟩ = some (.string (kindB 2)) := (HT.below hB0).kinds.2.2
        clear hbox cM hB1' hK
        go_wp2_with fail
        refine start_ (n := 24) (S := fun w' => w'.cell? ⟨w.heap.size, 0, none⟩ = some (.string a0) ∧ w'.cell? ⟨w.heap.size, 1, none⟩ = some (.string a1) ∧ w'.cell? ⟨w.heap.size, 2, none⟩ = some (.string a2) ∧ w'.cell? ⟨w.heap.size, 3, none⟩ = some (.string a3) ∧ w'.cell? ⟨w.heap.size, 4, none⟩ = some (.string a4) ∧ w'.cell? ⟨w.heap.size, 5, none⟩ = some (.int .i64 a5) ∧ w'.cell? ⟨w.heap.size, 6, none⟩ = some (.int .i64 2) ∧ w'.cell? ⟨w.heap.size, 7, none⟩ = some (.int .i64 a7) ∧ w'.cell? ⟨w.heap.size, 8, none⟩ = some (.int .i64 a8) ∧ w'.cell? ⟨0, 2, none⟩ = some (.string (kindB 2))) (ds := []) #[false, false, false, false, false, false, false, false, false, false, false, false, false, false, false, false, false, false, false, false, false, false, false, false] (by kernel_rfl) rfl rfl ?_ (fun hHeld => ?_)
        · exact ⟨q0, q1, q2, q3, q4, q5, q6, q7, q8, qk⟩
        have hB1 : Below w.heap.size w W1.drew := below_drew hB0
        clear q0 q1 q2 q3 q4 q5 q6 q7 q8 qk
        generalize W1.drew = W2 at hHeld hB1 ⊢
        refine take_ (i := 0) (N := some 6) (v := ?_) (a' := ?_) #[true, false, false, false, false, false, false, false, false, false, false, false, false, false, false, false, false, false, false, false, false, false, false, false] rfl rfl (by kernel_rfl) (fun _ _ _ h => h) (Or.inl ⟨by rfl, ?_⟩) hHeld ?_ ?_
        rotate_left
        · rintro w' ⟨s0, s1, s2, s3, s4, s5, s6, s7, s8, s9⟩
          go_simp
          with_reducible rfl
        rotate_left
        · simp only [Act.put, List.setIfInBounds_toArray, List.set_cons_zero, List.set_cons_succ]
          rfl
        refine take_ (i := 1) (N := some 7) (v := ?_) (a' := ?_) #[true, true, false, false, false, false, false, false, false, false, false, false, false, false, false, false, false, false, false, false, false, false, false, false] rfl rfl (by kernel_rfl) (fun _ _ _ h => h) (Or.inl ⟨by rfl, ?_⟩) hHeld ?_ ?_
        rotate_left
        · rintro w' ⟨s0, s1, s2, s3, s4, s5, s6, s7, s8, s9⟩
          go_simp
          with_reducible rfl
        rotate_left
        · simp only [Act.put, List.setIfInBounds_toArray, List.set_cons_zero, List.set_cons_succ]
          rfl
        refine take_ (i := 2) (N := some 8) (v := ?_) (a' := ?_) #[true, true, true, false, false, false, false, false, false, false, false, false, false, false, false, false, false, false, false, false, false, false, false, false] rfl rfl (by kernel_rfl) (fun _ _ _ h => h) (Or.inl ⟨by rfl, ?_⟩) hHeld ?_ ?_
        rotate_left
        · rintro w' ⟨s0, s1, s2, s3, s4, s5, s6, s7, s8, s9⟩
          go_simp
          with_reducible rfl
        rotate_left
        · simp only [Act.put, List.setIfInBounds_toArray, List.set_cons_zero, List.set_cons_succ]
          rfl
        refine take_ (i := 3) (N := some 9) (v := ?_) (a' := ?_) #[true, true, true, true, false, false, false, false, false, false, false, false, false, false, false, false, false, false, false, false, false, false, false, false] rfl rfl (by kernel_rfl) (fun _ _ _ h => h) (Or.inl ⟨by rfl, ?_⟩) hHeld ?_ ?_
        rotate_left
        · rintro w' ⟨s0, s1, s2, s3, s4, s5, s6, s7, s8, s9⟩
          go_simp
          with_reducible rfl
        rotate_left
        · simp only [Act.put, List.setIfInBounds_toArray, List.set_cons_zero, List.set_cons_succ]
          rfl
        refine take_ (i := 4) (N := some 10) (v := ?_) (a' := ?_) #[true, true, true, true, true, false, false, false, false, false, false, false, false, false, false, false, false, false, false, false, false, false, false, false] rfl rfl (by kernel_rfl) (fun _ _ _ h => h) (Or.inl ⟨by rfl, ?_⟩) hHeld ?_ ?_
        rotate_left
        · rintro w' ⟨s0, s1, s2, s3, s4, s5, s6, s7, s8, s9⟩
          go_simp
          with_reducible rfl
        rotate_left
        · simp only [Act.put, List.setIfInBounds_toArray, List.set_cons_zero, List.set_cons_succ]
          rfl
        refine take_ (i := 5) (N := some 11) (v := ?_) (a' := ?_) #[true, true, true, true, true, true, false, false, false, false, false, false, false, false, false, false, false, false, false, false, false, false, false, false] rfl rfl (by kernel_rfl) (fun _ _ _ h => h) (Or.inl ⟨by rfl, ?_⟩) hHeld ?_ ?_
        rotate_left
        · rintro w' ⟨s0, s1, s2, s3, s4, s5, s6, s7, s8, s9⟩
          go_simp
          with_reducible rfl
        rotate_left
        · simp only [Act.put, List.setIfInBounds_toArray, List.set_cons_zero, List.set_cons_succ]
          rfl
        refine take_ (i := 6) (N := some 12) (v := ?_) (a' := ?_) #[true, true, true, true, true, true, true, false, false, false, false, false, false, false, false, false, false, false, false, false, false, false, false, false] rfl rfl (by kernel_rfl) (fun _ _ _ h => h) (Or.inl ⟨by rfl, ?_⟩) hHeld ?_ ?_
        rotate_left
        · rintro w' ⟨s0, s1, s2, s3, s4, s5, s6, s7, s8, s9⟩
          go_simp
          with_reducible rfl
        rotate_left
        · simp only [Act.put, List.setIfInBounds_toArray, List.set_cons_zero, List.set_cons_succ]
          rfl
        refine take_ (i := 7) (N := some 13) (v := ?_) (a' := ?_) #[true, true, true, true, true, true, true, true, false, false, false, false, false, false, false, false, false, false, false, false, false, false, false, false] rfl rfl (by kernel_rfl) (fun _ _ _ h => h) (Or.inl ⟨by rfl, ?_⟩) hHeld ?_ ?_
        rotate_left
        · rintro w' ⟨s0, s1, s2, s3, s4, s5, s6, s7, s8, s9⟩
          go_simp
          with_reducible rfl
        rotate_left
        · simp only [Act.put, List.setIfInBounds_toArray, List.set_cons_zero, List.set_cons_succ]
          rfl
        refine take_ (i := 8) (N := some 14) (v := ?_) (a' := ?_) #[true, true, true, true, true, true, true, true, true, false, false, false, false, false, false, false, false, false, false, false, false, false, false, false] rfl rfl (by kernel_rfl) (fun _ _ _ h => h) (Or.inl ⟨by rfl, ?_⟩) hHeld ?_ ?_
        rotate_left
        · rintro w' ⟨s0, s1, s2, s3, s4, s5, s6, s7, s8, s9⟩
          go_simp
          with_reducible rfl
        rotate_left
        · simp only [Act.put, List.setIfInBounds_toArray, List.set_cons_zero, List.set_cons_succ]
          rfl
        refine take_ (i := 9) (N := some 15) (v := ?_) (a' := ?_) #[true, true, true, true, true, true, true, true, true, true, false, false, false, false, false, false, false, false, false, false, false, false, false, false] rfl rfl (by kernel_rfl) (fun _ _ _ h => h) (Or.inl ⟨by rfl, ?_⟩) hHeld ?_ ?_
        rotate_left
        · rintro w' ⟨s0, s1, s2, s3, s4, s5, s6, s7, s8, s9⟩
          go_simp
          with_reducible rfl
        rotate_left
        · simp only [Act.put, List.setIfInBounds_toArray, List.set_cons_zero, List.set_cons_succ]
          rfl
        refine take_ (i := 11) (N := some 17) (v := ?_) (a' := ?_) #[true, true, true, true, true, true, true, true, true, true, false, true, false, false, false, false, false, false, false, false, false, false, false, false] rfl rfl (by kernel_rfl) (fun _ _ _ h => h) (Or.inl ⟨by rfl, ?_⟩) hHeld ?_ ?_
        rotate_left
        · rintro w' ⟨s0, s1, s2, s3, s4, s5, s6, s7, s8, s9⟩
          go_simp
          with_reducible rfl
        rotate_left
        · simp only [Act.put, List.setIfInBounds_toArray, List.set_cons_zero, List.set_cons_succ]
          rfl
        refine take_ (i := 12) (N := some 18) (v := ?_) (a' := ?_) #[true, true, true, true, true, true, true, true, true, true, false, true, true, false, false, false, false, false, false, false, false, false, false, false] rfl rfl (by kernel_rfl) (fun _ _ _ h => h) (Or.inl ⟨by rfl, ?_⟩) hHeld ?_ ?_
        rotate_left
        · rintro w' ⟨s0, s1, s2, s3, s4, s5, s6, s7, s8, s9⟩
          go_simp
          with_reducible rfl
        rotate_left
        · simp only [Act.put, List.setIfInBounds_toArray, List.set_cons_zero, List.set_cons_succ]
          rfl
        refine take_ (i := 13) (N := some 19) (v := ?_) (a' := ?_) #[true, true, true, true, true, true, true, true, true, true, false, true, true, true, false, false, false, false, false, false, false, false, false, false] rfl rfl (by kernel_rfl) (fun _ _ _ h => h) (Or.inl ⟨by rfl, ?_⟩) hHeld ?_ ?_
        rotate_left
        · rintro w' ⟨s0, s1, s2, s3, s4, s5, s6, s7, s8, s9⟩
          go_simp
          with_reducible rfl
        rotate_left
        · simp only [Act.put, List.setIfInBounds_toArray, List.set_cons_zero, List.set_cons_succ]
          rfl
        refine take_ (i := 14) (N := some 20) (v := ?_) (a' := ?_) #[true, true, true, true, true, true, true, true, true, true, false, true, true, true, true, false, false, false, false, false, false, false, false, false] rfl rfl (by kernel_rfl) (fun _ _ _ h => h) (Or.inl ⟨by rfl, ?_⟩) hHeld ?_ ?_
        rotate_left
        · rintro w' ⟨s0, s1, s2, s3, s4, s5, s6, s7, s8, s9⟩
          go_simp
          with_reducible rfl
        rotate_left
        · simp only [Act.put, List.setIfInBounds_toArray, List.set_cons_zero, List.set_cons_succ]
          rfl
        refine take_ (i := 15) (N := some 21) (v := ?_) (a' := ?_) #[true, true, true, true, true, true, true, true, true, true, false, true, true, true, true, true, false, false, false, false, false, false, false, false] rfl rfl (by kernel_rfl) (fun _ _ _ h => h) (Or.inl ⟨by rfl, ?_⟩) hHeld ?_ ?_
        rotate_left
        · rintro w' ⟨s0, s1, s2, s3, s4, s5, s6, s7, s8, s9⟩
          go_simp
          with_reducible rfl
        rotate_left
        · simp only [Act.put, List.setIfInBounds_toArray, List.set_cons_zero, List.set_cons_succ]
          rfl
        refine take_ (i := 16) (N := some 22) (v := ?_) (a' := ?_) #[true, true, true, true, true, true, true, true, true, true, false, true, true, true, true, true, true, false, false, false, false, false, false, false] rfl rfl (by kernel_rfl) (fun _ _ _ h => h) (Or.inl ⟨by rfl, ?_⟩) hHeld ?_ ?_
        rotate_left
        · rintro w' ⟨s0, s1, s2, s3, s4, s5, s6, s7, s8, s9⟩
          go_simp
          with_reducible rfl
        rotate_left
        · simp only [Act.put, List.setIfInBounds_toArray, List.set_cons_zero, List.set_cons_succ]
          rfl
        refine take_ (i := 18) (N := some 24) (v := ?_) (a' := ?_) #[true, true, true, true, true, true, true, true, true, true, false, true, true, true, true, true, true, false, true, false, false, false, false, false] rfl rfl (by kernel_rfl) (fun _ _ _ h => h) (Or.inl ⟨by rfl, ?_⟩) hHeld ?_ ?_
        rotate_left
        · rintro w' ⟨s0, s1, s2, s3, s4, s5, s6, s7, s8, s9⟩
          go_simp
          with_reducible rfl
        rotate_left
        · simp only [Act.put, List.setIfInBounds_toArray, List.set_cons_zero, List.set_cons_succ]
          rfl
        refine take_ (i := 19) (N := some 25) (v := ?_) (a' := ?_) #[true, true, true, true, true, true, true, true, true, true, false, true, true, true, true, true, true, false, true, true, false, false, false, false] rfl rfl (by kernel_rfl) (fun _ _ _ h => h) (Or.inl ⟨by rfl, ?_⟩) hHeld ?_ ?_
        rotate_left
        · rintro w' ⟨s0, s1, s2, s3, s4, s5, s6, s7, s8, s9⟩
          go_simp
          with_reducible rfl
        rotate_left
        · simp only [Act.put, List.setIfInBounds_toArray, List.set_cons_zero, List.set_cons_succ]
          rfl
        refine one_ (i := 10) (N := some 16) #[true, true, true, true, true, true, true, true, true, true, true, true, true, true, true, true, true, false, true, true, false, false, false, false] rfl rfl (by kernel_rfl) (by decide) (fun K hK => ?_)
        refine goes_ Tryz.func12 (by kernel_rfl) rfl #[.agg #[.string a4, .int .i64 a5]] (by rfl) rfl rfl (by (try simp only [List.map_toArray, List.map_cons, List.map_nil]); first | done | rfl) ?_
        refine (X.money_Text.calls 10 a4 a5 m W2 hm (HT.below hB1)).mono ?_
        rintro e W3 ⟨rfl, hb3⟩
        refine ⟨_, rfl, ?_⟩
        refine hK.out _ _ ⟨keepy hb3 hHeld.1, keepy hb3 hHeld.2.1, keepy hb3 hHeld.2.2.1, keepy hb3 hHeld.2.2.2.1, keepy hb3 hHeld.2.2.2.2.1, keepy hb3 hHeld.2.2.2.2.2.1, keepy hb3 hHeld.2.2.2.2.2.2.1, keepy hb3 hHeld.2.2.2.2.2.2.2.1, keepy hb3 hHeld.2.2.2.2.2.2.2.2.1, keepy hb3 hHeld.2.2.2.2.2.2.2.2.2⟩ (fun hHeld => ?_)
        clear hK K
        refine norm_ (a' := ?_) ?_ ?_
        rotate_left
        · show Act.put _ (some 16) _ = _
          simp only [Act.put, List.setIfInBounds_toArray, List.set_cons_zero, List.set_cons_succ]
          rfl
        have hB3 := below_upY hB1 hb3
        refine one_ (i := 17) (N := some 23) #[true, true, true, true, true, true, true, true, true, true, true, true, true, true, true, true, true, true, true, true, false, false, false, false] rfl rfl (by kernel_rfl) (by decide) (fun K hK => ?_)
        refine goes_ Tryz.func30 (by kernel_rfl) rfl #[.int .i64 a7] (by rfl) rfl rfl (by (try simp only [List.map_toArray, List.map_cons, List.map_nil]); first | done | rfl) ?_
        refine (itoaY a7 i1 i2 W3 (HT.below hB3)).mono ?_
        rintro e W4 ⟨rfl, hb4⟩
        refine ⟨_, rfl, ?_⟩
        refine hK.out _ _ ⟨keepy hb4 hHeld.1, keepy hb4 hHeld.2.1, keepy hb4 hHeld.2.2.1, keepy hb4 hHeld.2.2.2.1, keepy hb4 hHeld.2.2.2.2.1, keepy hb4 hHeld.2.2.2.2.2.1, keepy hb4 hHeld.2.2.2.2.2.2.1, keepy hb4 hHeld.2.2.2.2.2.2.2.1, keepy hb4 hHeld.2.2.2.2.2.2.2.2.1, keepy hb4 hHeld.2.2.2.2.2.2.2.2.2⟩ (fun hHeld => ?_)
        clear hK K
        refine norm_ (a' := ?_) ?_ ?_
        rotate_left
        · show Act.put _ (some 23) _ = _
          simp only [Act.put, List.setIfInBounds_toArray, List.set_cons_zero, List.set_cons_succ]
          rfl
        have hB4 := below_upY hB3 hb4
        refine one_ (i := 20) (N := some 26) #[true, true, true, true, true, true, true, true, true, true, true, true, true, true, true, true, true, true, true, true, true, false, false, false] rfl rfl (by kernel_rfl) (by decide) (fun K hK => ?_)
        refine goes_ Tryz.func30 (by kernel_rfl) rfl #[.int .i64 a8] (by rfl) rfl rfl (by (try simp only [List.map_toArray, List.map_cons, List.map_nil]); first | done | rfl) ?_
        refine (itoaY a8 i3 i4 W4 (HT.below hB4)).mono ?_
        rintro e W5 ⟨rfl, hb5⟩
        refine ⟨_, rfl, ?_⟩
        refine hK.out _ _ ⟨keepy hb5 hHeld.1, keepy hb5 hHeld.2.1, keepy hb5 hHeld.2.2.1, keepy hb5 hHeld.2.2.2.1, keepy hb5 hHeld.2.2.2.2.1, keepy hb5 hHeld.2.2.2.2.2.1, keepy hb5 hHeld.2.2.2.2.2.2.1, keepy hb5 hHeld.2.2.2.2.2.2.2.1, keepy hb5 hHeld.2.2.2.2.2.2.2.2.1, keepy hb5 hHeld.2.2.2.2.2.2.2.2.2⟩ (fun hHeld => ?_)
        clear hK K
        refine norm_ (a' := ?_) ?_ ?_
        rotate_left
        · show Act.put _ (some 26) _ = _
          simp only [Act.put, List.setIfInBounds_toArray, List.set_cons_zero, List.set_cons_succ]
          rfl
        have hB5 := below_upY hB4 hb5
        refine one_ (i := 21) (N := some 27) #[true, true, true, true, true, true, true, true, true, true, true, true, true, true, true, true, true, true, true, true, true, true, false, false] rfl rfl (by kernel_rfl) (by decide) (fun K hK => ?_)
        refine value_ (by rfl) rfl (by go_simp; first | done | exact ⟨rfl, rfl⟩ | rfl) ?_
        have hb6 : Below W5.heap.size W5 (W5.alloc (.cells #[.string a0, .string a1, .string a2, .string a3, .string m, .string (kindB 2), .string ⟨(Lib.itoa a7).toArray⟩, .string ⟨(Lib.itoa a8).toArray⟩] 9)) := below_alloc (Below.refl _ _) _
        have hbk := blk_new W5 (.cells #[.string a0, .string a1, .string a2, .string a3, .string m, .string (kindB 2), .string ⟨(Lib.itoa a7).toArray⟩, .string ⟨(Lib.itoa a8).toArray⟩] 9)
        generalize W5.alloc (.cells #[.string a0, .string a1, .string a2, .string a3, .string m, .string (kindB 2), .string ⟨(Lib.itoa a7).toArray⟩, .string ⟨(Lib.itoa a8).toArray⟩] 9) = W6 at hb6 hbk ⊢
        refine hK.out _ _ ⟨keepy hb6 hHeld.1, keepy hb6 hHeld.2.1, keepy hb6 hHeld.2.2.1, keepy hb6 hHeld.2.2.2.1, keepy hb6 hHeld.2.2.2.2.1, keepy hb6 hHeld.2.2.2.2.2.1, keepy hb6 hHeld.2.2.2.2.2.2.1, keepy hb6 hHeld.2.2.2.2.2.2.2.1, keepy hb6 hHeld.2.2.2.2.2.2.2.2.1, keepy hb6 hHeld.2.2.2.2.2.2.2.2.2⟩ (fun hHeld => ?_)
        clear hK K
        refine norm_ (a' := ?_) ?_ ?_
        rotate_left
        · show Act.put _ (some 27) _ = _
          simp only [Act.put, List.setIfInBounds_toArray, List.set_cons_zero, List.set_cons_succ]
          rfl
        have hB6 := below_upY hB5 hb6
        refine one_ (i := 22) (N := some 28) #[true, true, true, true, true, true, true, true, true, true, true, true, true, true, true, true, true, true, true, true, true, true, true, false] rfl rfl (by kernel_rfl) (by decide) (fun K hK => ?_)
        refine goes_ Tryz.func29 (by kernel_rfl) rfl #[.slice (some ⟨W5.heap.size, 0, none⟩) 8 8, .string ⟨#[32]⟩] (by rfl) rfl rfl (by (try simp only [List.map_toArray, List.map_cons, List.map_nil]); first | done | rfl) ?_
        refine (join8 W5.heap.size _ _ _ _ _ _ _ _ W6 hbk hjl).mono ?_
        rintro e W7 ⟨rfl, hb7⟩
        refine ⟨_, rfl, ?_⟩
        refine hK.out _ _ ⟨keepy hb7 hHeld.1, keepy hb7 hHeld.2.1, keepy hb7 hHeld.2.2.1, keepy hb7 hHeld.2.2.2.1, keepy hb7 hHeld.2.2.2.2.1, keepy hb7 hHeld.2.2.2.2.2.1, keepy hb7 hHeld.2.2.2.2.2.2.1, keepy hb7 hHeld.2.2.2.2.2.2.2.1, keepy hb7 hHeld.2.2.2.2.2.2.2.2.1, keepy hb7 hHeld.2.2.2.2.2.2.2.2.2⟩ (fun hHeld => ?_)
        clear hK K
        refine norm_ (a' := ?_) ?_ ?_
        rotate_left
        · show Act.put _ (some 28) _ = _
          simp only [Act.put, List.setIfInBounds_toArray, List.set_cons_zero, List.set_cons_succ]
          rfl
        have hB7 := below_upY hB6 hb7
        refine pure_ (i := 23) (N := some 2) (v := ?_) (a' := ?_) #[true, true, true, true, true, true, true, true, true, true, true, true, true, true, true, true, true, true, true, true, true, true, true, true] rfl rfl (by kernel_rfl) (fun _ _ _ h => h) (Or.inl ⟨by rfl, ?_⟩) ?_ ?_
        rotate_left
        · intro w'
          go_simp
          with_reducible rfl
        rotate_left
        · simp only [Act.put, List.setIfInBounds_toArray, List.set_cons_zero, List.set_cons_succ]
          rfl
        refine done_ (by kernel_rfl) ?_
        go_wp2_with fail
        go_ret
        exact ⟨rfl, hB7⟩
    · cases h
end Go.Proofs.YtcmjgkmnbenniaaGreatDoor.Ext
