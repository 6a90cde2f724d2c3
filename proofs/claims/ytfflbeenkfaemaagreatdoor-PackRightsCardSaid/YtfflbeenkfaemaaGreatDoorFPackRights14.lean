/- One of the texts of this claim: Rgt. -/
import Derived.Test.YtfflbeenkfaemaaGreatDoorFPackRights13
namespace Go.Proofs.YtfflbeenkfaemaaGreatDoor.Ext
open Go.RowKit Go.Maps Go.Proofs.YtfflbeenkfaemaaGreatDoor.Ref Go.Proofs.YtfflbeenkfaemaaGreatDoorW.PrintWords Go.Proofs.YtfflbeenkfaemaaGreatDoorW.PrintLast
/-- Boxes as a call takes them. -/
structure BC (w : World) (A : Option Addr) (bs : List X.S44) : Prop where
 row : Kd.C X.k44 w A bs.length bs
 len : bs.length ≤ 1000
 lots : ∀ b ∈ bs, b.f2.length ≤ 100
 marks : ∀ b ∈ bs, b.f0.size ≤ 9223372036854775807
 goods : ∀ b ∈ bs, ∀ x ∈ b.f2, x.f0.size ≤ 9223372036854775807
theorem BC.below {w w' : World} {A : Option Addr} {bs : List X.S44} (h : BC w A bs) (hb : Below w.heap.size w w') : BC w' A bs := ⟨Kd.C_below h.row hb, h.len, h.lots, h.marks, h.goods⟩
theorem content_len : ∀ (bs : List X.S44) (_ : ∀ b ∈ bs, b.f2.length ≤ 100), (contentL bs).length ≤ bs.length * 100
 | [], _ => by simp [contentL]
 | b :: bs, h => by
  have h1 := content_len bs (fun c hc => h c (List.mem_cons_of_mem _ hc))
  have h2 := h b List.mem_cons_self
  have e : contentL (b :: bs) = b.f2 ++ contentL bs := rfl
  rw [e, List.length_append, List.length_cons]
  omega
theorem content_mem {bs : List X.S44} {x : X.S55} (h : x ∈ contentL bs) : ∃ b ∈ bs, x ∈ b.f2 := List.mem_flatMap.1 h
theorem Content_any (A : Option Addr) (c : Nat) (bs : List X.S44) (w : World) (hc : bs.length ≤ c) (h : BC w A bs) :
  Calls Tryz.prog 20 #[.slice A bs.length c] w fun e w' => ∃ v, e = .returned v ∧ Kd.R X.k55 55 w' w.heap.size (fun _ => True) v (joinB (contentL bs)) ∧ Below w.heap.size w w' := by
 have hl := content_len bs h.lots
 have h1 := h.len
 refine X.pack_Content.calls (bs.length + 1) A c bs _ w h.row hc ?_
 rw [content_f bs (by omega) (by omega) _ (by omega)]
 unfold goods_Join.f
 have hg : ∀ x ∈ contentL bs, x.f0.size ≤ 9223372036854775807 := fun x hx => by
  obtain ⟨b, hb, hx⟩ := content_mem hx
  exact h.goods b hb x hx
 rw [if_pos ⟨by omega, hg⟩]
theorem Equal_any (A : Option Addr) (c : Nat) (l : List X.S55) (A' : Option Addr) (c' : Nat) (m : List X.S55) (w : World) (hl : l.length ≤ 1000000) (h1 : Kd.C X.k55 w A l.length l) (h2 : l.length ≤ c) (h3 : Kd.C X.k55 w A' m.length m) (h4 : m.length ≤ c') :
  Calls Tryz.prog 60 #[.slice A l.length c, .slice A' m.length c'] w fun e w' => e = .returned (.bool (decide (l = m))) ∧ Below w.heap.size w w' :=
 (X.api_Lot.calls (l.length + 1) A c l A' c' m _ w h1 h2 h3 h4 (equal_f l m hl _ (by omega))).mono fun _ _ h => ⟨h.1, by first | exact h.2.below | exact h.2⟩
/-! ### marks that were seen -/
def hasM (seen : List ByteArray) (x : ByteArray) : Bool := seen.any fun y => decide (y = x)
theorem hasM_iff (seen : List ByteArray) (x : ByteArray) : hasM seen x = true ↔ x ∈ seen := by
 unfold hasM
 rw [List.any_eq_true]
 constructor
 ·rintro ⟨y, hy, h⟩
  obtain rfl : y = x := by simpa using h
  exact hy
 ·exact fun h => ⟨x, h, by simp⟩
def MarksIn (w : World) (m : Nat) (seen : List ByteArray) : Prop :=
 ∃ n D, n ≤ seen.length ∧ w.ownsMap Tryz.prog 9 (plainElem (H := Unit) Tryz.prog 4) m n D ∧ ∀ c, D.atKey (keyL c) (.lit (.bool false)) = .lit (.bool (hasM seen c))
theorem MarksIn.below {w w' : World} {m : Nat} {seen : List ByteArray} (h : MarksIn w m seen) (hb : Below w.heap.size w w') : MarksIn w' m seen := by
 obtain ⟨n, D, hn, ho, hk⟩ := h
 exact ⟨n, D, hn, own_below ho hb, hk⟩
theorem MarksIn.made (w : World) : MarksIn (w.alloc (.map #[] 0)) w.heap.size [] := ⟨0, .map [], Nat.le_refl _, World.ownsMap_made _ _ _ _, fun c => rfl⟩
theorem zeroBool (w : World) : (zeroValue 4).run Tryz.prog w = .ok (.bool false) w := by kernel_rfl
theorem plain_bool_inv {v : Value} {b : Bool} {ps : List MemPlace} (h : plainElem (H := Unit) Tryz.prog 4 v = some (.lit (.bool b), ps)) : v = .bool b := by
 unfold plainElem at h
 split at h
 ·cases h
  rfl
 ·rename_i he
  rw [Tryz.underlying4] at he
  cases he
 ·rename_i he
  rw [Tryz.underlying4] at he
  cases he
 ·cases h
theorem MarksIn.look {w : World} {m : Nat} {seen : List ByteArray} (h : MarksIn w m seen) (c : ByteArray) (hc : c.size ≤ 9223372036854775807) :
  (Instr.lookup 42 (.map (some m)) (.string c) false).run Tryz.prog w = .ok (.bool (hasM seen c)) w := by
 obtain ⟨n, D, hn, ho, hk⟩ := h
 obtain ⟨v, ps, hrun, hv⟩ := ho.lookup lawS Tryz.underlying42 (zeroBool w) (plainElem_bool Tryz.underlying4 false) (keyOf_bytes c hc)
 rw [hk c] at hv
 rw [hrun, plain_bool_inv hv]
theorem MarksIn.put {w : World} {m : Nat} {seen : List ByteArray} (h : MarksIn w m seen) (x : ByteArray) (hc : x.size ≤ 9223372036854775807) (hl : seen.length ≤ 1000000000) :
  ∃ w', (Instr.mapUpdate 42 (.map (some m)) (.string x) (.bool true)).run Tryz.prog w = .ok () w' ∧ MarksIn w' m (seen ++ [x]) ∧ w.grownBy w' (some m) := by
 obtain ⟨n, D, hn, ho, hk⟩ := h
 obtain ⟨w', hrun, ho', hg⟩ := ho.update lawS Tryz.underlying42 (by unfold maxLen; omega) (keyOf_bytes x hc) (plainElem_bool Tryz.underlying4 true)
 refine ⟨w', hrun, ⟨n + 1, _, by simpa using hn, ho', fun c => ?_⟩, hg⟩
 by_cases e : c = x
 ·subst e
  rw [Maps.atKey_put_same ho.isMap (by exact trivial)]
  have : hasM (seen ++ [c]) c = true := (hasM_iff _ _).2 (by simp)
  rw [this]
 ·have hne : keyL c ≠ keyL x := fun h => e (by
   have h2 := congrArg (fun x : Lit => match x with | .string s => s | _ => []) h
   exact bytes_inj h2)
  rw [Maps.atKey_put_other hne, hk c]
  have : hasM (seen ++ [x]) c = hasM seen c := by
   rw [Bool.eq_iff_iff, hasM_iff, hasM_iff, List.mem_append, List.mem_singleton]
   exact ⟨fun h => h.resolve_right e, .inl⟩
  rw [this]
def okBox (gs : List X.S30) (seen : List ByteArray) (b : X.S44) : Bool := rightB b.f0 && (!hasM seen b.f0 && (!decide (b.f2.length = 0) && (decide ((joinB b.f2).length = b.f2.length) && goB gs b.f1 b.f2)))
def allOk (gs : List X.S30) : List ByteArray → List X.S44 → Bool
 | _, [] => true
 | seen, b :: r => okBox gs seen b && allOk gs (seen ++ [b.f0]) r
def packedOk (gs : List X.S30) (bs : List X.S44) (l : List X.S55) : Bool := allOk gs [] bs && decide (joinB (contentL bs) = joinB l)
theorem drop44 (bs : List X.S44) (i : Nat) (h : i < bs.length) : bs.drop i = X.rd_T44 bs (i : Int) :: bs.drop (i + 1) := by
 have e : X.rd_T44 bs (i : Int) = bs[i] := by simp [X.rd_T44, List.getD, List.getElem?_eq_getElem h]
 rw [List.drop_eq_getElem_cons h, e]
theorem rd_at44 (bs : List X.S44) (i : Nat) (h : i < bs.length) : bs[i]? = some (X.rd_T44 bs (i : Int)) := by
 have e : X.rd_T44 bs (i : Int) = bs[i] := by simp [X.rd_T44, List.getD, List.getElem?_eq_getElem h]
 rw [e, List.getElem?_eq_getElem h]
/-- One round: what the long condition says. -/
def condB (gs : List X.S30) (seen : List ByteArray) (b : X.S44) : Bool := !okBox gs seen b
set_option maxHeartbeats 16000000 in
set_option maxRecDepth 100000 in
theorem Right_pack (t : Nat) (gs : List X.S30) (A : Option Addr) (c : Nat) (bs : List X.S44) (A2 : Option Addr) (c2 : Nat) (l : List X.S55) (w : World) (ht : TC w t gs) (hb : BC w A bs) (hc : bs.length ≤ c) (hr : LC w A2 l) :
  Calls Tryz.prog 22 #[.pointer (some ⟨t, 0, none⟩), .slice A bs.length c, .slice A2 l.length c2] w fun e w' => e = .returned (.bool (packedOk gs bs l)) ∧ Below w.heap.size w w' := by
 have hmm := @run_makeMap Tryz.prog
 obtain ⟨P, hP⟩ : ∃ P, P = packedOk gs bs l := ⟨_, rfl⟩
 have hP0 : P = (allOk gs [] bs && decide (joinB (contentL bs) = joinB l)) := hP
 rw [← hP]
 clear hP
 obtain ⟨M, hMe⟩ : ∃ M, M = w.heap.size := ⟨_, rfl⟩
 have hM0 : MarksIn (w.alloc (.map #[] 0)) M [] := by rw [hMe]; exact MarksIn.made w
 have hbl := hb.len
 have hMw : w.heap.size ≤ M := by omega
 replace hP0 := Lib.hid hP0
 go_enter Tryz.func22, Tryz.ntmps22
 go_wp2_with fail
 rw [← hMe]
 clear hMe
 go_loopw [13] (fun v13 wr => ∃ i : Nat, i ≤ bs.length ∧ v13 = .int .i64 (i : Int) ∧ Aside (P = (allOk gs ((bs.take i).map X.S44.f0) (bs.drop i) && decide (joinB (contentL bs) = joinB l)) ∧ MarksIn wr M ((bs.take i).map X.S44.f0)) ∧ Below w.heap.size w wr) (fun v13 _ => bs.length - (intOf v13).toNat)
 case atStart => exact ⟨0, by omega, rfl, ⟨by rw [hP0.out]; rfl, hM0⟩, (Below.refl _ _).alloc (Nat.le_refl _) _⟩
 case round =>
  obtain ⟨i, hi, rfl, ⟨hP1, hM⟩, hB⟩ := hrel
  clear hP0 hM0
  by_cases hlt : i < bs.length
  ·obtain ⟨ad, A3, c3, eA, e0, e1, e2, hl3, hC3⟩ := X.at_T44 hb.row (i : Int) (by omega) (by omega)
   subst eA
   have hz := rd_at44 bs i hlt
   have hzm := List.mem_of_getElem? hz
   have hs1 := hb.marks _ hzm
   have hs2 := hb.lots _ hzm
   have hs3 := hb.goods _ hzm
   rw [drop44 bs i hlt] at hP1
   have htk : (bs.take (i + 1)).map X.S44.f0 = (bs.take i).map X.S44.f0 ++ [(X.rd_T44 bs (i : Int)).f0] := by
    rw [List.take_add_one, hz]; simp
   have hsl : ((bs.take i).map X.S44.f0).length ≤ 1000 := by simp; omega
   generalize (bs.take i).map X.S44.f0 = seen at hP1 hM htk hsl
   clear hz hzm
   generalize X.rd_T44 bs (i : Int) = z at e0 e1 e2 hl3 hC3 hs1 hs2 hs3 hP1 htk
   obtain ⟨mk, kd, ls⟩ := z
   simp only [Int.toNat_natCast] at e0 e1 e2 hl3 hC3 hs1 hs2 hs3 htk
   have a0 := keepw hB e0
   have a1 := keepw hB e1
   have a2 := keepw hB e2
   clear e0 e1 e2
   generalize A3 = AL at *
   generalize c3 = cL at *
   have hBL : Below w.heap.size w (wr.alloc (.cells #[.string mk, .int .i64 kd, .slice AL ls.length cL] 44)) := hB.alloc hB.size _
   have hP2 : P = ((okBox gs seen ⟨mk, kd, ls⟩ && allOk gs (seen ++ [mk]) (bs.drop (i + 1))) && decide (joinB (contentL bs) = joinB l)) := hP1
   have hok : okBox gs seen ⟨mk, kd, ls⟩ = (rightB mk && (!hasM seen mk && (!decide (ls.length = 0) && (decide ((joinB ls).length = ls.length) && goB gs kd ls)))) := rfl
   rw [hok] at hP2
   clear hP1 hok
   replace htk := Lib.hid htk
   replace hP2 := Lib.hid hP2
   go_wp2_with fail
   have hbk := blk_new wr (.cells #[.string mk, .int .i64 kd, .slice AL ls.length cL] 44)
   have hML := hM.below (below_alloc (Below.refl _ _) (.cells #[.string mk, .int .i64 kd, .slice AL ls.length cL] 44))
   have hgbw : w.heap.size ≤ wr.heap.size := hB.size
   clear hM a0 a1 a2 hB
   generalize wr.heap.size = gb at hbk hgbw ⊢
   generalize wr.alloc (.cells #[.string mk, .int .i64 kd, .slice AL ls.length cL] 44) = W0 at hBL hbk hML ⊢
   have hgM : gb ≠ M := fun e => by
    obtain ⟨n, D, _, ⟨es, ck, hmb, _⟩, _⟩ := hML
    rw [e] at hbk
    rw [hbk] at hmb
    cases hmb
   have cMR := fun W => Right_any mk hs1 W
   have cJ := fun W (hW : Below W0.heap.size W0 W) => Join_any AL cL ls W (Kd.C_below hC3 (hBL.trans (hW.mono hBL.size))) (by omega) hs3
   have cT := fun W (hW : Below W0.heap.size W0 W) => together_any t gs kd AL cL ls W (ht.below (hBL.trans (hW.mono hBL.size))) ⟨Kd.C_below hC3 (hBL.trans (hW.mono hBL.size)), by omega, hs3⟩
   obtain ⟨hs, hhs⟩ : ∃ hs, hs = hasM seen mk := ⟨_, rfl⟩
   have hS : ∀ w', Below W0.heap.size W0 w' → w'.cell? ⟨gb, 0, none⟩ = some (.string mk) ∧ w'.cell? ⟨gb, 1, none⟩ = some (.int .i64 kd) ∧ w'.cell? ⟨gb, 2, none⟩ = some (.slice AL ls.length cL) ∧ (Instr.lookup 42 (.map (some M)) (.string mk) false).run Tryz.prog w' = .ok (.bool hs) w' := fun w' hW => ⟨(blk_cell (blk_below hbk hW) 0).trans rfl, (blk_cell (blk_below hbk hW) 1).trans rfl, (blk_cell (blk_below hbk hW) 2).trans rfl, by rw [hhs]; exact (hML.below hW).look mk hs1⟩
   have hH0 := hS W0.drew (below_drew (Below.refl _ _))
   have hP3 := hP2.out
   rw [← hhs] at hP3
   clear hhs hP2
   generalize goB gs kd ls = gq at cT hP3
   generalize joinB ls = jl at cJ hP3
   generalize hrm : rightB mk = rm at cMR hP3
   clear hrm
   have hPn := fun (h : (rm && (!hs && (!decide (ls.length = 0) && (decide (jl.length = ls.length) && gq)))) = false) => show P = false by rw [hP3, h]; rfl
   have hPy := fun (h : (rm && (!hs && (!decide (ls.length = 0) && (decide (jl.length = ls.length) && gq)))) = true) => show P = (allOk gs (seen ++ [mk]) (bs.drop (i + 1)) && decide (joinB (contentL bs) = joinB l)) by rw [hP3, h]; rfl
   clear hP3
   cases rm with
   | false =>
    have hk := Lib.hid (hPn (by rfl))
    clear hPn hPy
    refine start_ (n := 35) (S := fun w' => w'.cell? ⟨gb, 0, none⟩ = some (.string mk) ∧ w'.cell? ⟨gb, 1, none⟩ = some (.int .i64 kd) ∧ w'.cell? ⟨gb, 2, none⟩ = some (.slice AL ls.length cL) ∧ (Instr.lookup 42 (.map (some M)) (.string mk) false).run Tryz.prog w' = .ok (.bool hs) w') (ds := []) (bA 35 0) (by kernel_rfl) rfl rfl ?_ (fun hHeld => ?_)
    ·exact hH0
    have hH1 := hHeld
    have hBd : Below W0.heap.size W0 W0.drew := below_drew (Below.refl _ _)
    refine pure_ (i := 0) (N := some 17) (v := ?_) (a' := ?_) (bA 35 1) rfl rfl (by kernel_rfl) (fun _ _ _ h => h) (Or.inl ⟨by rfl, ?_⟩) ?_ ?_
    rotate_left
    ·intro w'
     go_simp
     with_reducible rfl
    rotate_left
    ·simp only [Act.put, List.setIfInBounds_toArray, List.set_cons_zero, List.set_cons_succ]
     rfl
    refine take_ (i := 1) (N := some 18) (v := ?_) (a' := ?_) (bA 35 3) rfl rfl (by kernel_rfl) (fun _ _ _ h => h) (Or.inl ⟨by rfl, ?_⟩) hHeld ?_ ?_
    rotate_left
    ·rintro w' ⟨s0, s1, s2, s3⟩
     go_simp
     with_reducible rfl
    rotate_left
    ·simp only [Act.put, List.setIfInBounds_toArray, List.set_cons_zero, List.set_cons_succ]
     rfl
    refine one_ (i := 2) (N := some 19) (bA 35 7) rfl rfl (by kernel_rfl) (by decide) (fun K hK => ?_)
    refine goes_ Tryz.func18 (by kernel_rfl) rfl #[.string mk] (by rfl) rfl rfl (by (try simp only [List.map_toArray, List.map_cons, List.map_nil]); first | done | rfl) ?_
    refine (cMR _).mono ?_
    rintro e W1 ⟨rfl, nq, hq⟩
    refine ⟨_, rfl, ?_⟩
    have hB1 : Below W0.heap.size W0 W1 := by rw [hq]; exact pw_below_drewN hBd nq
    clear hq
    replace hHeld := hS W1 hB1
    refine hK.out _ _ hHeld (fun hHeld => ?_)
    clear hK K
    refine norm_ (a' := ?_) ?_ ?_
    rotate_left
    ·show Act.put _ (some 19) _ = _
     simp only [Act.put, List.setIfInBounds_toArray, List.set_cons_zero, List.set_cons_succ]
     rfl
    refine pure_ (i := 3) (N := some 20) (v := ?_) (a' := ?_) (bA 35 15) rfl rfl (by kernel_rfl) (fun _ _ _ h => h) (Or.inl ⟨by rfl, ?_⟩) ?_ ?_
    rotate_left
    ·intro w'
     go_simp
     with_reducible rfl
    rotate_left
    ·simp only [Act.put, List.setIfInBounds_toArray, List.set_cons_zero, List.set_cons_succ]
     rfl
    refine pure_ (i := 4) (N := some 21) (v := ?_) (a' := ?_) (bA 35 31) rfl rfl (by kernel_rfl) (fun _ _ _ h => h) (Or.inl ⟨by rfl, ?_⟩) ?_ ?_
    rotate_left
    ·intro w'
     go_simp
     with_reducible rfl
    rotate_left
    ·simp only [Act.put, List.setIfInBounds_toArray, List.set_cons_zero, List.set_cons_succ]
     rfl
    refine pure_ (i := 5) (N := some 22) (v := undef) (a' := ?_) (bA 35 63) rfl rfl (by kernel_rfl) (fun _ _ _ h => h) (Or.inr ⟨by rfl, rfl⟩) ?_ ?_
    rotate_left
    ·simp only [Act.put, List.setIfInBounds_toArray, List.set_cons_zero, List.set_cons_succ]
     rfl
    refine pure_ (i := 6) (N := some 23) (v := undef) (a' := ?_) (bA 35 127) rfl rfl (by kernel_rfl) (fun _ _ _ h => h) (Or.inr ⟨by rfl, rfl⟩) ?_ ?_
    rotate_left
    ·simp only [Act.put, List.setIfInBounds_toArray, List.set_cons_zero, List.set_cons_succ]
     rfl
    refine pure_ (i := 7) (N := some 24) (v := undef) (a' := ?_) (bA 35 255) rfl rfl (by kernel_rfl) (fun _ _ _ h => h) (Or.inr ⟨by rfl, rfl⟩) ?_ ?_
    rotate_left
    ·simp only [Act.put, List.setIfInBounds_toArray, List.set_cons_zero, List.set_cons_succ]
     rfl
    refine pure_ (i := 8) (N := some 25) (v := undef) (a' := ?_) (bA 35 511) rfl rfl (by kernel_rfl) (fun _ _ _ h => h) (Or.inr ⟨by rfl, rfl⟩) ?_ ?_
    rotate_left
    ·simp only [Act.put, List.setIfInBounds_toArray, List.set_cons_zero, List.set_cons_succ]
     rfl
    refine pure_ (i := 9) (N := some 26) (v := ?_) (a' := ?_) (bA 35 1023) rfl rfl (by kernel_rfl) (fun _ _ _ h => h) (Or.inl ⟨by rfl, ?_⟩) ?_ ?_
    rotate_left
    ·intro w'
     go_simp
     with_reducible rfl
    rotate_left
    ·simp only [Act.put, List.setIfInBounds_toArray, List.set_cons_zero, List.set_cons_succ]
     rfl
    refine pure_ (i := 10) (N := some 27) (v := ?_) (a' := ?_) (bA 35 2047) rfl rfl (by kernel_rfl) (fun _ _ _ h => h) (Or.inl ⟨by rfl, ?_⟩) ?_ ?_
    rotate_left
    ·intro w'
     go_simp
     with_reducible rfl
    rotate_left
    ·simp only [Act.put, List.setIfInBounds_toArray, List.set_cons_zero, List.set_cons_succ]
     rfl
    refine pure_ (i := 11) (N := some 28) (v := undef) (a' := ?_) (bA 35 4095) rfl rfl (by kernel_rfl) (fun _ _ _ h => h) (Or.inr ⟨by rfl, rfl⟩) ?_ ?_
    rotate_left
    ·simp only [Act.put, List.setIfInBounds_toArray, List.set_cons_zero, List.set_cons_succ]
     rfl
    refine pure_ (i := 12) (N := some 29) (v := undef) (a' := ?_) (bA 35 8191) rfl rfl (by kernel_rfl) (fun _ _ _ h => h) (Or.inr ⟨by rfl, rfl⟩) ?_ ?_
    rotate_left
    ·simp only [Act.put, List.setIfInBounds_toArray, List.set_cons_zero, List.set_cons_succ]
     rfl
    refine pure_ (i := 13) (N := some 30) (v := undef) (a' := ?_) (bA 35 16383) rfl rfl (by kernel_rfl) (fun _ _ _ h => h) (Or.inr ⟨by rfl, rfl⟩) ?_ ?_
    rotate_left
    ·simp only [Act.put, List.setIfInBounds_toArray, List.set_cons_zero, List.set_cons_succ]
     rfl
    refine pure_ (i := 14) (N := some 31) (v := undef) (a' := ?_) (bA 35 32767) rfl rfl (by kernel_rfl) (fun _ _ _ h => h) (Or.inr ⟨by rfl, rfl⟩) ?_ ?_
    rotate_left
    ·simp only [Act.put, List.setIfInBounds_toArray, List.set_cons_zero, List.set_cons_succ]
     rfl
    refine pure_ (i := 15) (N := some 32) (v := ?_) (a' := ?_) (bA 35 65535) rfl rfl (by kernel_rfl) (fun _ _ _ h => h) (Or.inl ⟨by rfl, ?_⟩) ?_ ?_
    rotate_left
    ·intro w'
     go_simp
     with_reducible rfl
    rotate_left
    ·simp only [Act.put, List.setIfInBounds_toArray, List.set_cons_zero, List.set_cons_succ]
     rfl
    refine pure_ (i := 16) (N := some 33) (v := ?_) (a' := ?_) (bA 35 131071) rfl rfl (by kernel_rfl) (fun _ _ _ h => h) (Or.inl ⟨by rfl, ?_⟩) ?_ ?_
    rotate_left
    ·intro w'
     go_simp
     with_reducible rfl
    rotate_left
    ·simp only [Act.put, List.setIfInBounds_toArray, List.set_cons_zero, List.set_cons_succ]
     rfl
    refine pure_ (i := 17) (N := some 34) (v := undef) (a' := ?_) (bA 35 262143) rfl rfl (by kernel_rfl) (fun _ _ _ h => h) (Or.inr ⟨by rfl, rfl⟩) ?_ ?_
    rotate_left
    ·simp only [Act.put, List.setIfInBounds_toArray, List.set_cons_zero, List.set_cons_succ]
     rfl
    refine pure_ (i := 18) (N := some 35) (v := undef) (a' := ?_) (bA 35 524287) rfl rfl (by kernel_rfl) (fun _ _ _ h => h) (Or.inr ⟨by rfl, rfl⟩) ?_ ?_
    rotate_left
    ·simp only [Act.put, List.setIfInBounds_toArray, List.set_cons_zero, List.set_cons_succ]
     rfl
    refine pure_ (i := 21) (N := some 38) (v := undef) (a' := ?_) (bA 35 2621439) rfl rfl (by kernel_rfl) (fun _ _ _ h => h) (Or.inr ⟨by rfl, rfl⟩) ?_ ?_
    rotate_left
    ·simp only [Act.put, List.setIfInBounds_toArray, List.set_cons_zero, List.set_cons_succ]
     rfl
    refine pure_ (i := 22) (N := some 39) (v := undef) (a' := ?_) (bA 35 6815743) rfl rfl (by kernel_rfl) (fun _ _ _ h => h) (Or.inr ⟨by rfl, rfl⟩) ?_ ?_
    rotate_left
    ·simp only [Act.put, List.setIfInBounds_toArray, List.set_cons_zero, List.set_cons_succ]
     rfl
    refine pure_ (i := 23) (N := some 40) (v := undef) (a' := ?_) (bA 35 15204351) rfl rfl (by kernel_rfl) (fun _ _ _ h => h) (Or.inr ⟨by rfl, rfl⟩) ?_ ?_
    rotate_left
    ·simp only [Act.put, List.setIfInBounds_toArray, List.set_cons_zero, List.set_cons_succ]
     rfl
    refine one_ (i := 19) (N := some 36) (bA 35 15728639) rfl rfl (by kernel_rfl) (by decide) (fun K hK => ?_)
    refine off_ (by rfl) ?_
    refine hK.out _ _ hHeld (fun hHeld => ?_)
    clear hK K
    refine norm_ (a' := ?_) ?_ ?_
    rotate_left
    ·show Act.put _ (some 36) _ = _
     simp only [Act.put, List.setIfInBounds_toArray, List.set_cons_zero, List.set_cons_succ]
     rfl
    refine pure_ (i := 20) (N := some 37) (v := undef) (a' := ?_) (bA 35 16777215) rfl rfl (by kernel_rfl) (fun _ _ _ h => h) (Or.inr ⟨by rfl, rfl⟩) ?_ ?_
    rotate_left
    ·simp only [Act.put, List.setIfInBounds_toArray, List.set_cons_zero, List.set_cons_succ]
     rfl
    refine pure_ (i := 24) (N := some 41) (v := undef) (a' := ?_) (bA 35 33554431) rfl rfl (by kernel_rfl) (fun _ _ _ h => h) (Or.inr ⟨by rfl, rfl⟩) ?_ ?_
    rotate_left
    ·simp only [Act.put, List.setIfInBounds_toArray, List.set_cons_zero, List.set_cons_succ]
     rfl
    refine pure_ (i := 25) (N := some 42) (v := ?_) (a' := ?_) (bA 35 67108863) rfl rfl (by kernel_rfl) (fun _ _ _ h => h) (Or.inl ⟨by rfl, ?_⟩) ?_ ?_
    rotate_left
    ·intro w'
     go_simp
     with_reducible rfl
    rotate_left
    ·simp only [Act.put, List.setIfInBounds_toArray, List.set_cons_zero, List.set_cons_succ]
     rfl
    refine pure_ (i := 26) (N := some 43) (v := ?_) (a' := ?_) (bA 35 134217727) rfl rfl (by kernel_rfl) (fun _ _ _ h => h) (Or.inl ⟨by rfl, ?_⟩) ?_ ?_
    rotate_left
    ·intro w'
     go_simp
     with_reducible rfl
    rotate_left
    ·simp only [Act.put, List.setIfInBounds_toArray, List.set_cons_zero, List.set_cons_succ]
     rfl
    refine pure_ (i := 27) (N := some 44) (v := undef) (a' := ?_) (bA 35 268435455) rfl rfl (by kernel_rfl) (fun _ _ _ h => h) (Or.inr ⟨by rfl, rfl⟩) ?_ ?_
    rotate_left
    ·simp only [Act.put, List.setIfInBounds_toArray, List.set_cons_zero, List.set_cons_succ]
     rfl
    refine pure_ (i := 28) (N := some 45) (v := undef) (a' := ?_) (bA 35 536870911) rfl rfl (by kernel_rfl) (fun _ _ _ h => h) (Or.inr ⟨by rfl, rfl⟩) ?_ ?_
    rotate_left
    ·simp only [Act.put, List.setIfInBounds_toArray, List.set_cons_zero, List.set_cons_succ]
     rfl
    refine pure_ (i := 29) (N := some 46) (v := undef) (a' := ?_) (bA 35 1073741823) rfl rfl (by kernel_rfl) (fun _ _ _ h => h) (Or.inr ⟨by rfl, rfl⟩) ?_ ?_
    rotate_left
    ·simp only [Act.put, List.setIfInBounds_toArray, List.set_cons_zero, List.set_cons_succ]
     rfl
    refine pure_ (i := 30) (N := some 47) (v := undef) (a' := ?_) (bA 35 2147483647) rfl rfl (by kernel_rfl) (fun _ _ _ h => h) (Or.inr ⟨by rfl, rfl⟩) ?_ ?_
    rotate_left
    ·simp only [Act.put, List.setIfInBounds_toArray, List.set_cons_zero, List.set_cons_succ]
     rfl
    refine pure_ (i := 31) (N := some 48) (v := undef) (a' := ?_) (bA 35 4294967295) rfl rfl (by kernel_rfl) (fun _ _ _ h => h) (Or.inr ⟨by rfl, rfl⟩) ?_ ?_
    rotate_left
    ·simp only [Act.put, List.setIfInBounds_toArray, List.set_cons_zero, List.set_cons_succ]
     rfl
    refine one_ (i := 32) (N := some 49) (bA 35 8589934591) rfl rfl (by kernel_rfl) (by decide) (fun K hK => ?_)
    refine off_ (by rfl) ?_
    refine hK.out _ _ hHeld (fun hHeld => ?_)
    clear hK K
    refine norm_ (a' := ?_) ?_ ?_
    rotate_left
    ·show Act.put _ (some 49) _ = _
     simp only [Act.put, List.setIfInBounds_toArray, List.set_cons_zero, List.set_cons_succ]
     rfl
    refine pure_ (i := 33) (N := some 50) (v := undef) (a' := ?_) (bA 35 17179869183) rfl rfl (by kernel_rfl) (fun _ _ _ h => h) (Or.inr ⟨by rfl, rfl⟩) ?_ ?_
    rotate_left
    ·simp only [Act.put, List.setIfInBounds_toArray, List.set_cons_zero, List.set_cons_succ]
     rfl
    refine pure_ (i := 34) (N := some 51) (v := ?_) (a' := ?_) (bA 35 34359738367) rfl rfl (by kernel_rfl) (fun _ _ _ h => h) (Or.inl ⟨by rfl, ?_⟩) ?_ ?_
    rotate_left
    ·intro w'
     go_simp
     with_reducible rfl
    rotate_left
    ·simp only [Act.put, List.setIfInBounds_toArray, List.set_cons_zero, List.set_cons_succ]
     rfl
    refine done_ (by kernel_rfl) ?_
    have hBx := hB1
    clear hS hH0 hH1 hHeld cMR cJ cT
    go_wp2_with fail
    go_ret
    exact ⟨by rw [hk.out]; rfl, hBL.trans (hBx.mono hBL.size)⟩
   | true =>
    cases hs with
    | true =>
     have hk := Lib.hid (hPn (by rfl))
     clear hPn hPy
     refine start_ (n := 35) (S := fun w' => w'.cell? ⟨gb, 0, none⟩ = some (.string mk) ∧ w'.cell? ⟨gb, 1, none⟩ = some (.int .i64 kd) ∧ w'.cell? ⟨gb, 2, none⟩ = some (.slice AL ls.length cL) ∧ (Instr.lookup 42 (.map (some M)) (.string mk) false).run Tryz.prog w' = .ok (.bool true) w') (ds := []) (bA 35 0) (by kernel_rfl) rfl rfl ?_ (fun hHeld => ?_)
     ·exact hH0
     have hH1 := hHeld
     have hBd : Below W0.heap.size W0 W0.drew := below_drew (Below.refl _ _)
     refine pure_ (i := 0) (N := some 17) (v := ?_) (a' := ?_) (bA 35 1) rfl rfl (by kernel_rfl) (fun _ _ _ h => h) (Or.inl ⟨by rfl, ?_⟩) ?_ ?_
     rotate_left
     ·intro w'
      go_simp
      with_reducible rfl
     rotate_left
     ·simp only [Act.put, List.setIfInBounds_toArray, List.set_cons_zero, List.set_cons_succ]
      rfl
     refine take_ (i := 1) (N := some 18) (v := ?_) (a' := ?_) (bA 35 3) rfl rfl (by kernel_rfl) (fun _ _ _ h => h) (Or.inl ⟨by rfl, ?_⟩) hHeld ?_ ?_
     rotate_left
     ·rintro w' ⟨s0, s1, s2, s3⟩
      go_simp
      with_reducible rfl
     rotate_left
     ·simp only [Act.put, List.setIfInBounds_toArray, List.set_cons_zero, List.set_cons_succ]
      rfl
     refine one_ (i := 2) (N := some 19) (bA 35 7) rfl rfl (by kernel_rfl) (by decide) (fun K hK => ?_)
     refine goes_ Tryz.func18 (by kernel_rfl) rfl #[.string mk] (by rfl) rfl rfl (by (try simp only [List.map_toArray, List.map_cons, List.map_nil]); first | done | rfl) ?_
     refine (cMR _).mono ?_
     rintro e W1 ⟨rfl, nq, hq⟩
     refine ⟨_, rfl, ?_⟩
     have hB1 : Below W0.heap.size W0 W1 := by rw [hq]; exact pw_below_drewN hBd nq
     clear hq
     replace hHeld := hS W1 hB1
     refine hK.out _ _ hHeld (fun hHeld => ?_)
     clear hK K
     refine norm_ (a' := ?_) ?_ ?_
     rotate_left
     ·show Act.put _ (some 19) _ = _
      simp only [Act.put, List.setIfInBounds_toArray, List.set_cons_zero, List.set_cons_succ]
      rfl
     refine pure_ (i := 3) (N := some 20) (v := ?_) (a' := ?_) (bA 35 15) rfl rfl (by kernel_rfl) (fun _ _ _ h => h) (Or.inl ⟨by rfl, ?_⟩) ?_ ?_
     rotate_left
     ·intro w'
      go_simp
      with_reducible rfl
     rotate_left
     ·simp only [Act.put, List.setIfInBounds_toArray, List.set_cons_zero, List.set_cons_succ]
      rfl
     refine pure_ (i := 4) (N := some 21) (v := ?_) (a' := ?_) (bA 35 31) rfl rfl (by kernel_rfl) (fun _ _ _ h => h) (Or.inl ⟨by rfl, ?_⟩) ?_ ?_
     rotate_left
     ·intro w'
      go_simp
      with_reducible rfl
     rotate_left
     ·simp only [Act.put, List.setIfInBounds_toArray, List.set_cons_zero, List.set_cons_succ]
      rfl
     refine pure_ (i := 5) (N := some 22) (v := ?_) (a' := ?_) (bA 35 63) rfl rfl (by kernel_rfl) (fun _ _ _ h => h) (Or.inl ⟨by rfl, ?_⟩) ?_ ?_
     rotate_left
     ·intro w'
      go_simp
      with_reducible rfl
     rotate_left
     ·simp only [Act.put, List.setIfInBounds_toArray, List.set_cons_zero, List.set_cons_succ]
      rfl
     refine pure_ (i := 6) (N := some 23) (v := ?_) (a' := ?_) (bA 35 127) rfl rfl (by kernel_rfl) (fun _ _ _ h => h) (Or.inl ⟨by rfl, ?_⟩) ?_ ?_
     rotate_left
     ·intro w'
      go_simp
      with_reducible rfl
     rotate_left
     ·simp only [Act.put, List.setIfInBounds_toArray, List.set_cons_zero, List.set_cons_succ]
      rfl
     refine take_ (i := 7) (N := some 24) (v := ?_) (a' := ?_) (bA 35 255) rfl rfl (by kernel_rfl) (fun _ _ _ h => h) (Or.inl ⟨by rfl, ?_⟩) hHeld ?_ ?_
     rotate_left
     ·rintro w' ⟨s0, s1, s2, s3⟩
      go_simp
      with_reducible rfl
     rotate_left
     ·simp only [Act.put, List.setIfInBounds_toArray, List.set_cons_zero, List.set_cons_succ]
      rfl
     refine take_ (i := 8) (N := some 25) (v := ?_) (a' := ?_) (bA 35 511) rfl rfl (by kernel_rfl) (fun _ _ _ h => h) (Or.inl ⟨by rfl, ?_⟩) hHeld ?_ ?_
     rotate_left
     ·rintro w' ⟨s0, s1, s2, s3⟩
      go_simp
      with_reducible rfl
     rotate_left
     ·simp only [Act.put, List.setIfInBounds_toArray, List.set_cons_zero, List.set_cons_succ]
      rfl
     refine pure_ (i := 9) (N := some 26) (v := ?_) (a' := ?_) (bA 35 1023) rfl rfl (by kernel_rfl) (fun _ _ _ h => h) (Or.inl ⟨by rfl, ?_⟩) ?_ ?_
     rotate_left
     ·intro w'
      go_simp
      with_reducible rfl
     rotate_left
     ·simp only [Act.put, List.setIfInBounds_toArray, List.set_cons_zero, List.set_cons_succ]
      rfl
     refine pure_ (i := 10) (N := some 27) (v := ?_) (a' := ?_) (bA 35 2047) rfl rfl (by kernel_rfl) (fun _ _ _ h => h) (Or.inl ⟨by rfl, ?_⟩) ?_ ?_
     rotate_left
     ·intro w'
      go_simp
      with_reducible rfl
     rotate_left
     ·simp only [Act.put, List.setIfInBounds_toArray, List.set_cons_zero, List.set_cons_succ]
      rfl
     refine pure_ (i := 11) (N := some 28) (v := undef) (a' := ?_) (bA 35 4095) rfl rfl (by kernel_rfl) (fun _ _ _ h => h) (Or.inr ⟨by rfl, rfl⟩) ?_ ?_
     rotate_left
     ·simp only [Act.put, List.setIfInBounds_toArray, List.set_cons_zero, List.set_cons_succ]
      rfl
     refine pure_ (i := 12) (N := some 29) (v := undef) (a' := ?_) (bA 35 8191) rfl rfl (by kernel_rfl) (fun _ _ _ h => h) (Or.inr ⟨by rfl, rfl⟩) ?_ ?_
     rotate_left
     ·simp only [Act.put, List.setIfInBounds_toArray, List.set_cons_zero, List.set_cons_succ]
      rfl
     refine pure_ (i := 13) (N := some 30) (v := undef) (a' := ?_) (bA 35 16383) rfl rfl (by kernel_rfl) (fun _ _ _ h => h) (Or.inr ⟨by rfl, rfl⟩) ?_ ?_
     rotate_left
     ·simp only [Act.put, List.setIfInBounds_toArray, List.set_cons_zero, List.set_cons_succ]
      rfl
     refine pure_ (i := 14) (N := some 31) (v := undef) (a' := ?_) (bA 35 32767) rfl rfl (by kernel_rfl) (fun _ _ _ h => h) (Or.inr ⟨by rfl, rfl⟩) ?_ ?_
     rotate_left
     ·simp only [Act.put, List.setIfInBounds_toArray, List.set_cons_zero, List.set_cons_succ]
      rfl
     refine pure_ (i := 15) (N := some 32) (v := ?_) (a' := ?_) (bA 35 65535) rfl rfl (by kernel_rfl) (fun _ _ _ h => h) (Or.inl ⟨by rfl, ?_⟩) ?_ ?_
     rotate_left
     ·intro w'
      go_simp
      with_reducible rfl
     rotate_left
     ·simp only [Act.put, List.setIfInBounds_toArray, List.set_cons_zero, List.set_cons_succ]
      rfl
     refine pure_ (i := 16) (N := some 33) (v := ?_) (a' := ?_) (bA 35 131071) rfl rfl (by kernel_rfl) (fun _ _ _ h => h) (Or.inl ⟨by rfl, ?_⟩) ?_ ?_
     rotate_left
     ·intro w'
      go_simp
      with_reducible rfl
     rotate_left
     ·simp only [Act.put, List.setIfInBounds_toArray, List.set_cons_zero, List.set_cons_succ]
      rfl
     refine pure_ (i := 17) (N := some 34) (v := undef) (a' := ?_) (bA 35 262143) rfl rfl (by kernel_rfl) (fun _ _ _ h => h) (Or.inr ⟨by rfl, rfl⟩) ?_ ?_
     rotate_left
     ·simp only [Act.put, List.setIfInBounds_toArray, List.set_cons_zero, List.set_cons_succ]
      rfl
     refine pure_ (i := 18) (N := some 35) (v := undef) (a' := ?_) (bA 35 524287) rfl rfl (by kernel_rfl) (fun _ _ _ h => h) (Or.inr ⟨by rfl, rfl⟩) ?_ ?_
     rotate_left
     ·simp only [Act.put, List.setIfInBounds_toArray, List.set_cons_zero, List.set_cons_succ]
      rfl
     refine pure_ (i := 21) (N := some 38) (v := undef) (a' := ?_) (bA 35 2621439) rfl rfl (by kernel_rfl) (fun _ _ _ h => h) (Or.inr ⟨by rfl, rfl⟩) ?_ ?_
     rotate_left
     ·simp only [Act.put, List.setIfInBounds_toArray, List.set_cons_zero, List.set_cons_succ]
      rfl
     refine pure_ (i := 22) (N := some 39) (v := undef) (a' := ?_) (bA 35 6815743) rfl rfl (by kernel_rfl) (fun _ _ _ h => h) (Or.inr ⟨by rfl, rfl⟩) ?_ ?_
     rotate_left
     ·simp only [Act.put, List.setIfInBounds_toArray, List.set_cons_zero, List.set_cons_succ]
      rfl
     refine pure_ (i := 23) (N := some 40) (v := undef) (a' := ?_) (bA 35 15204351) rfl rfl (by kernel_rfl) (fun _ _ _ h => h) (Or.inr ⟨by rfl, rfl⟩) ?_ ?_
     rotate_left
     ·simp only [Act.put, List.setIfInBounds_toArray, List.set_cons_zero, List.set_cons_succ]
      rfl
     refine one_ (i := 19) (N := some 36) (bA 35 15728639) rfl rfl (by kernel_rfl) (by decide) (fun K hK => ?_)
     refine off_ (by rfl) ?_
     refine hK.out _ _ hHeld (fun hHeld => ?_)
     clear hK K
     refine norm_ (a' := ?_) ?_ ?_
     rotate_left
     ·show Act.put _ (some 36) _ = _
      simp only [Act.put, List.setIfInBounds_toArray, List.set_cons_zero, List.set_cons_succ]
      rfl
     refine pure_ (i := 20) (N := some 37) (v := undef) (a' := ?_) (bA 35 16777215) rfl rfl (by kernel_rfl) (fun _ _ _ h => h) (Or.inr ⟨by rfl, rfl⟩) ?_ ?_
     rotate_left
     ·simp only [Act.put, List.setIfInBounds_toArray, List.set_cons_zero, List.set_cons_succ]
      rfl
     refine pure_ (i := 24) (N := some 41) (v := undef) (a' := ?_) (bA 35 33554431) rfl rfl (by kernel_rfl) (fun _ _ _ h => h) (Or.inr ⟨by rfl, rfl⟩) ?_ ?_
     rotate_left
     ·simp only [Act.put, List.setIfInBounds_toArray, List.set_cons_zero, List.set_cons_succ]
      rfl
     refine pure_ (i := 25) (N := some 42) (v := ?_) (a' := ?_) (bA 35 67108863) rfl rfl (by kernel_rfl) (fun _ _ _ h => h) (Or.inl ⟨by rfl, ?_⟩) ?_ ?_
     rotate_left
     ·intro w'
      go_simp
      with_reducible rfl
     rotate_left
     ·simp only [Act.put, List.setIfInBounds_toArray, List.set_cons_zero, List.set_cons_succ]
      rfl
     refine pure_ (i := 26) (N := some 43) (v := ?_) (a' := ?_) (bA 35 134217727) rfl rfl (by kernel_rfl) (fun _ _ _ h => h) (Or.inl ⟨by rfl, ?_⟩) ?_ ?_
     rotate_left
     ·intro w'
      go_simp
      with_reducible rfl
     rotate_left
     ·simp only [Act.put, List.setIfInBounds_toArray, List.set_cons_zero, List.set_cons_succ]
      rfl
     refine pure_ (i := 27) (N := some 44) (v := undef) (a' := ?_) (bA 35 268435455) rfl rfl (by kernel_rfl) (fun _ _ _ h => h) (Or.inr ⟨by rfl, rfl⟩) ?_ ?_
     rotate_left
     ·simp only [Act.put, List.setIfInBounds_toArray, List.set_cons_zero, List.set_cons_succ]
      rfl
     refine pure_ (i := 28) (N := some 45) (v := undef) (a' := ?_) (bA 35 536870911) rfl rfl (by kernel_rfl) (fun _ _ _ h => h) (Or.inr ⟨by rfl, rfl⟩) ?_ ?_
     rotate_left
     ·simp only [Act.put, List.setIfInBounds_toArray, List.set_cons_zero, List.set_cons_succ]
      rfl
     refine pure_ (i := 29) (N := some 46) (v := undef) (a' := ?_) (bA 35 1073741823) rfl rfl (by kernel_rfl) (fun _ _ _ h => h) (Or.inr ⟨by rfl, rfl⟩) ?_ ?_
     rotate_left
     ·simp only [Act.put, List.setIfInBounds_toArray, List.set_cons_zero, List.set_cons_succ]
      rfl
     refine pure_ (i := 30) (N := some 47) (v := undef) (a' := ?_) (bA 35 2147483647) rfl rfl (by kernel_rfl) (fun _ _ _ h => h) (Or.inr ⟨by rfl, rfl⟩) ?_ ?_
     rotate_left
     ·simp only [Act.put, List.setIfInBounds_toArray, List.set_cons_zero, List.set_cons_succ]
      rfl
     refine pure_ (i := 31) (N := some 48) (v := undef) (a' := ?_) (bA 35 4294967295) rfl rfl (by kernel_rfl) (fun _ _ _ h => h) (Or.inr ⟨by rfl, rfl⟩) ?_ ?_
     rotate_left
     ·simp only [Act.put, List.setIfInBounds_toArray, List.set_cons_zero, List.set_cons_succ]
      rfl
     refine one_ (i := 32) (N := some 49) (bA 35 8589934591) rfl rfl (by kernel_rfl) (by decide) (fun K hK => ?_)
     refine off_ (by rfl) ?_
     refine hK.out _ _ hHeld (fun hHeld => ?_)
     clear hK K
     refine norm_ (a' := ?_) ?_ ?_
     rotate_left
     ·show Act.put _ (some 49) _ = _
      simp only [Act.put, List.setIfInBounds_toArray, List.set_cons_zero, List.set_cons_succ]
      rfl
     refine pure_ (i := 33) (N := some 50) (v := undef) (a' := ?_) (bA 35 17179869183) rfl rfl (by kernel_rfl) (fun _ _ _ h => h) (Or.inr ⟨by rfl, rfl⟩) ?_ ?_
     rotate_left
     ·simp only [Act.put, List.setIfInBounds_toArray, List.set_cons_zero, List.set_cons_succ]
      rfl
     refine pure_ (i := 34) (N := some 51) (v := ?_) (a' := ?_) (bA 35 34359738367) rfl rfl (by kernel_rfl) (fun _ _ _ h => h) (Or.inl ⟨by rfl, ?_⟩) ?_ ?_
     rotate_left
     ·intro w'
      go_simp
      with_reducible rfl
     rotate_left
     ·simp only [Act.put, List.setIfInBounds_toArray, List.set_cons_zero, List.set_cons_succ]
      rfl
     refine done_ (by kernel_rfl) ?_
     have hBx := hB1
     clear hS hH0 hH1 hHeld cMR cJ cT
     go_wp2_with fail
     go_ret
     exact ⟨by rw [hk.out]; rfl, hBL.trans (hBx.mono hBL.size)⟩
    | false =>
     by_cases h0 : ls.length = 0
     ·have hd0 : ((ls.length : Int) == 0) = true := by rw [h0]; rfl
      have hk := Lib.hid (hPn (by simp [h0]))
      clear hPn hPy
      refine start_ (n := 35) (S := fun w' => w'.cell? ⟨gb, 0, none⟩ = some (.string mk) ∧ w'.cell? ⟨gb, 1, none⟩ = some (.int .i64 kd) ∧ w'.cell? ⟨gb, 2, none⟩ = some (.slice AL ls.length cL) ∧ (Instr.lookup 42 (.map (some M)) (.string mk) false).run Tryz.prog w' = .ok (.bool false) w') (ds := []) (bA 35 0) (by kernel_rfl) rfl rfl ?_ (fun hHeld => ?_)
      ·exact hH0
      have hH1 := hHeld
      have hBd : Below W0.heap.size W0 W0.drew := below_drew (Below.refl _ _)
      refine pure_ (i := 0) (N := some 17) (v := ?_) (a' := ?_) (bA 35 1) rfl rfl (by kernel_rfl) (fun _ _ _ h => h) (Or.inl ⟨by rfl, ?_⟩) ?_ ?_
      rotate_left
      ·intro w'
       go_simp
       with_reducible rfl
      rotate_left
      ·simp only [Act.put, List.setIfInBounds_toArray, List.set_cons_zero, List.set_cons_succ]
       rfl
      refine take_ (i := 1) (N := some 18) (v := ?_) (a' := ?_) (bA 35 3) rfl rfl (by kernel_rfl) (fun _ _ _ h => h) (Or.inl ⟨by rfl, ?_⟩) hHeld ?_ ?_
      rotate_left
      ·rintro w' ⟨s0, s1, s2, s3⟩
       go_simp
       with_reducible rfl
      rotate_left
      ·simp only [Act.put, List.setIfInBounds_toArray, List.set_cons_zero, List.set_cons_succ]
       rfl
      refine one_ (i := 2) (N := some 19) (bA 35 7) rfl rfl (by kernel_rfl) (by decide) (fun K hK => ?_)
      refine goes_ Tryz.func18 (by kernel_rfl) rfl #[.string mk] (by rfl) rfl rfl (by (try simp only [List.map_toArray, List.map_cons, List.map_nil]); first | done | rfl) ?_
      refine (cMR _).mono ?_
      rintro e W1 ⟨rfl, nq, hq⟩
      refine ⟨_, rfl, ?_⟩
      have hB1 : Below W0.heap.size W0 W1 := by rw [hq]; exact pw_below_drewN hBd nq
      clear hq
      replace hHeld := hS W1 hB1
      refine hK.out _ _ hHeld (fun hHeld => ?_)
      clear hK K
      refine norm_ (a' := ?_) ?_ ?_
      rotate_left
      ·show Act.put _ (some 19) _ = _
       simp only [Act.put, List.setIfInBounds_toArray, List.set_cons_zero, List.set_cons_succ]
       rfl
      refine pure_ (i := 3) (N := some 20) (v := ?_) (a' := ?_) (bA 35 15) rfl rfl (by kernel_rfl) (fun _ _ _ h => h) (Or.inl ⟨by rfl, ?_⟩) ?_ ?_
      rotate_left
      ·intro w'
       go_simp
       with_reducible rfl
      rotate_left
      ·simp only [Act.put, List.setIfInBounds_toArray, List.set_cons_zero, List.set_cons_succ]
       rfl
      refine pure_ (i := 4) (N := some 21) (v := ?_) (a' := ?_) (bA 35 31) rfl rfl (by kernel_rfl) (fun _ _ _ h => h) (Or.inl ⟨by rfl, ?_⟩) ?_ ?_
      rotate_left
      ·intro w'
       go_simp
       with_reducible rfl
      rotate_left
      ·simp only [Act.put, List.setIfInBounds_toArray, List.set_cons_zero, List.set_cons_succ]
       rfl
      refine pure_ (i := 5) (N := some 22) (v := ?_) (a' := ?_) (bA 35 63) rfl rfl (by kernel_rfl) (fun _ _ _ h => h) (Or.inl ⟨by rfl, ?_⟩) ?_ ?_
      rotate_left
      ·intro w'
       go_simp
       with_reducible rfl
      rotate_left
      ·simp only [Act.put, List.setIfInBounds_toArray, List.set_cons_zero, List.set_cons_succ]
       rfl
      refine pure_ (i := 6) (N := some 23) (v := ?_) (a' := ?_) (bA 35 127) rfl rfl (by kernel_rfl) (fun _ _ _ h => h) (Or.inl ⟨by rfl, ?_⟩) ?_ ?_
      rotate_left
      ·intro w'
       go_simp
       with_reducible rfl
      rotate_left
      ·simp only [Act.put, List.setIfInBounds_toArray, List.set_cons_zero, List.set_cons_succ]
       rfl
      refine take_ (i := 7) (N := some 24) (v := ?_) (a' := ?_) (bA 35 255) rfl rfl (by kernel_rfl) (fun _ _ _ h => h) (Or.inl ⟨by rfl, ?_⟩) hHeld ?_ ?_
      rotate_left
      ·rintro w' ⟨s0, s1, s2, s3⟩
       go_simp
       with_reducible rfl
      rotate_left
      ·simp only [Act.put, List.setIfInBounds_toArray, List.set_cons_zero, List.set_cons_succ]
       rfl
      refine take_ (i := 8) (N := some 25) (v := ?_) (a' := ?_) (bA 35 511) rfl rfl (by kernel_rfl) (fun _ _ _ h => h) (Or.inl ⟨by rfl, ?_⟩) hHeld ?_ ?_
      rotate_left
      ·rintro w' ⟨s0, s1, s2, s3⟩
       go_simp
       with_reducible rfl
      rotate_left
      ·simp only [Act.put, List.setIfInBounds_toArray, List.set_cons_zero, List.set_cons_succ]
       rfl
      refine pure_ (i := 9) (N := some 26) (v := ?_) (a' := ?_) (bA 35 1023) rfl rfl (by kernel_rfl) (fun _ _ _ h => h) (Or.inl ⟨by rfl, ?_⟩) ?_ ?_
      rotate_left
      ·intro w'
       go_simp
       with_reducible rfl
      rotate_left
      ·simp only [Act.put, List.setIfInBounds_toArray, List.set_cons_zero, List.set_cons_succ]
       rfl
      refine pure_ (i := 10) (N := some 27) (v := ?_) (a' := ?_) (bA 35 2047) rfl rfl (by kernel_rfl) (fun _ _ _ h => h) (Or.inl ⟨by rfl, ?_⟩) ?_ ?_
      rotate_left
      ·intro w'
       go_simp
       with_reducible rfl
      rotate_left
      ·simp only [Act.put, List.setIfInBounds_toArray, List.set_cons_zero, List.set_cons_succ]
       rfl
      refine pure_ (i := 11) (N := some 28) (v := ?_) (a' := ?_) (bA 35 4095) rfl rfl (by kernel_rfl) (fun _ _ _ h => h) (Or.inl ⟨by rfl, ?_⟩) ?_ ?_
      rotate_left
      ·intro w'
       go_simp
       with_reducible rfl
      rotate_left
      ·simp only [Act.put, List.setIfInBounds_toArray, List.set_cons_zero, List.set_cons_succ]
       rfl
      refine take_ (i := 12) (N := some 29) (v := ?_) (a' := ?_) (bA 35 8191) rfl rfl (by kernel_rfl) (fun _ _ _ h => h) (Or.inl ⟨by rfl, ?_⟩) hHeld ?_ ?_
      rotate_left
      ·rintro w' ⟨s0, s1, s2, s3⟩
       go_simp
       with_reducible rfl
      rotate_left
      ·simp only [Act.put, List.setIfInBounds_toArray, List.set_cons_zero, List.set_cons_succ]
       rfl
      refine pure_ (i := 13) (N := some 30) (v := ?_) (a' := ?_) (bA 35 16383) rfl rfl (by kernel_rfl) (fun _ _ _ h => h) (Or.inl ⟨by rfl, ?_⟩) ?_ ?_
      rotate_left
      ·intro w'
       go_simp
       with_reducible rfl
      rotate_left
      ·simp only [Act.put, List.setIfInBounds_toArray, List.set_cons_zero, List.set_cons_succ]
       rfl
      refine pure_ (i := 14) (N := some 31) (v := ?_) (a' := ?_) (bA 35 32767) rfl rfl (by kernel_rfl) (fun _ _ _ h => h) (Or.inl ⟨by rfl, ?_⟩) ?_ ?_
      rotate_left
      ·intro w'
       go_simp
       with_reducible rfl
      rotate_left
      ·simp only [Act.put, List.setIfInBounds_toArray, List.set_cons_zero, List.set_cons_succ]
       rfl
      refine pure_ (i := 15) (N := some 32) (v := ?_) (a' := ?_) (bA 35 65535) rfl rfl (by kernel_rfl) (fun _ _ _ h => h) (Or.inl ⟨by rfl, ?_⟩) ?_ ?_
      rotate_left
      ·intro w'
       go_simp
       with_reducible rfl
      rotate_left
      ·simp only [Act.put, List.setIfInBounds_toArray, List.set_cons_zero, List.set_cons_succ]
       rfl
      refine pure_ (i := 16) (N := some 33) (v := ?_) (a' := ?_) (bA 35 131071) rfl rfl (by kernel_rfl) (fun _ _ _ h => h) (Or.inl ⟨by rfl, ?_⟩) ?_ ?_
      rotate_left
      ·intro w'
       go_simp
       with_reducible rfl
      rotate_left
      ·simp only [Act.put, List.setIfInBounds_toArray, List.set_cons_zero, List.set_cons_succ]
       rfl
      refine pure_ (i := 17) (N := some 34) (v := undef) (a' := ?_) (bA 35 262143) rfl rfl (by kernel_rfl) (fun _ _ _ h => h) (Or.inr ⟨by rfl, rfl⟩) ?_ ?_
      rotate_left
      ·simp only [Act.put, List.setIfInBounds_toArray, List.set_cons_zero, List.set_cons_succ]
       rfl
      refine pure_ (i := 18) (N := some 35) (v := undef) (a' := ?_) (bA 35 524287) rfl rfl (by kernel_rfl) (fun _ _ _ h => h) (Or.inr ⟨by rfl, rfl⟩) ?_ ?_
      rotate_left
      ·simp only [Act.put, List.setIfInBounds_toArray, List.set_cons_zero, List.set_cons_succ]
       rfl
      refine pure_ (i := 21) (N := some 38) (v := undef) (a' := ?_) (bA 35 2621439) rfl rfl (by kernel_rfl) (fun _ _ _ h => h) (Or.inr ⟨by rfl, rfl⟩) ?_ ?_
      rotate_left
      ·simp only [Act.put, List.setIfInBounds_toArray, List.set_cons_zero, List.set_cons_succ]
       rfl
      refine pure_ (i := 22) (N := some 39) (v := undef) (a' := ?_) (bA 35 6815743) rfl rfl (by kernel_rfl) (fun _ _ _ h => h) (Or.inr ⟨by rfl, rfl⟩) ?_ ?_
      rotate_left
      ·simp only [Act.put, List.setIfInBounds_toArray, List.set_cons_zero, List.set_cons_succ]
       rfl
      refine pure_ (i := 23) (N := some 40) (v := undef) (a' := ?_) (bA 35 15204351) rfl rfl (by kernel_rfl) (fun _ _ _ h => h) (Or.inr ⟨by rfl, rfl⟩) ?_ ?_
      rotate_left
      ·simp only [Act.put, List.setIfInBounds_toArray, List.set_cons_zero, List.set_cons_succ]
       rfl
      refine one_ (i := 19) (N := some 36) (bA 35 15728639) rfl rfl (by kernel_rfl) (by decide) (fun K hK => ?_)
      refine off_ (by rfl) ?_
      refine hK.out _ _ hHeld (fun hHeld => ?_)
      clear hK K
      refine norm_ (a' := ?_) ?_ ?_
      rotate_left
      ·show Act.put _ (some 36) _ = _
       simp only [Act.put, List.setIfInBounds_toArray, List.set_cons_zero, List.set_cons_succ]
       rfl
      refine pure_ (i := 20) (N := some 37) (v := undef) (a' := ?_) (bA 35 16777215) rfl rfl (by kernel_rfl) (fun _ _ _ h => h) (Or.inr ⟨by rfl, rfl⟩) ?_ ?_
      rotate_left
      ·simp only [Act.put, List.setIfInBounds_toArray, List.set_cons_zero, List.set_cons_succ]
       rfl
      refine pure_ (i := 24) (N := some 41) (v := undef) (a' := ?_) (bA 35 33554431) rfl rfl (by kernel_rfl) (fun _ _ _ h => h) (Or.inr ⟨by rfl, rfl⟩) ?_ ?_
      rotate_left
      ·simp only [Act.put, List.setIfInBounds_toArray, List.set_cons_zero, List.set_cons_succ]
       rfl
      refine pure_ (i := 25) (N := some 42) (v := ?_) (a' := ?_) (bA 35 67108863) rfl rfl (by kernel_rfl) (fun _ _ _ h => h) (Or.inl ⟨by rfl, ?_⟩) ?_ ?_
      rotate_left
      ·intro w'
       go_simp
       with_reducible rfl
      rotate_left
      ·simp only [Act.put, List.setIfInBounds_toArray, List.set_cons_zero, List.set_cons_succ]
       rfl
      refine pure_ (i := 26) (N := some 43) (v := ?_) (a' := ?_) (bA 35 134217727) rfl rfl (by kernel_rfl) (fun _ _ _ h => h) (Or.inl ⟨by rfl, ?_⟩) ?_ ?_
      rotate_left
      ·intro w'
       go_simp
       with_reducible rfl
      rotate_left
      ·simp only [Act.put, List.setIfInBounds_toArray, List.set_cons_zero, List.set_cons_succ]
       rfl
      refine pure_ (i := 27) (N := some 44) (v := undef) (a' := ?_) (bA 35 268435455) rfl rfl (by kernel_rfl) (fun _ _ _ h => h) (Or.inr ⟨by rfl, rfl⟩) ?_ ?_
      rotate_left
      ·simp only [Act.put, List.setIfInBounds_toArray, List.set_cons_zero, List.set_cons_succ]
       rfl
      refine pure_ (i := 28) (N := some 45) (v := undef) (a' := ?_) (bA 35 536870911) rfl rfl (by kernel_rfl) (fun _ _ _ h => h) (Or.inr ⟨by rfl, rfl⟩) ?_ ?_
      rotate_left
      ·simp only [Act.put, List.setIfInBounds_toArray, List.set_cons_zero, List.set_cons_succ]
       rfl
      refine pure_ (i := 29) (N := some 46) (v := undef) (a' := ?_) (bA 35 1073741823) rfl rfl (by kernel_rfl) (fun _ _ _ h => h) (Or.inr ⟨by rfl, rfl⟩) ?_ ?_
      rotate_left
      ·simp only [Act.put, List.setIfInBounds_toArray, List.set_cons_zero, List.set_cons_succ]
       rfl
      refine pure_ (i := 30) (N := some 47) (v := undef) (a' := ?_) (bA 35 2147483647) rfl rfl (by kernel_rfl) (fun _ _ _ h => h) (Or.inr ⟨by rfl, rfl⟩) ?_ ?_
      rotate_left
      ·simp only [Act.put, List.setIfInBounds_toArray, List.set_cons_zero, List.set_cons_succ]
       rfl
      refine pure_ (i := 31) (N := some 48) (v := undef) (a' := ?_) (bA 35 4294967295) rfl rfl (by kernel_rfl) (fun _ _ _ h => h) (Or.inr ⟨by rfl, rfl⟩) ?_ ?_
      rotate_left
      ·simp only [Act.put, List.setIfInBounds_toArray, List.set_cons_zero, List.set_cons_succ]
       rfl
      refine one_ (i := 32) (N := some 49) (bA 35 8589934591) rfl rfl (by kernel_rfl) (by decide) (fun K hK => ?_)
      refine off_ (by rfl) ?_
      refine hK.out _ _ hHeld (fun hHeld => ?_)
      clear hK K
      refine norm_ (a' := ?_) ?_ ?_
      rotate_left
      ·show Act.put _ (some 49) _ = _
       simp only [Act.put, List.setIfInBounds_toArray, List.set_cons_zero, List.set_cons_succ]
       rfl
      refine pure_ (i := 33) (N := some 50) (v := undef) (a' := ?_) (bA 35 17179869183) rfl rfl (by kernel_rfl) (fun _ _ _ h => h) (Or.inr ⟨by rfl, rfl⟩) ?_ ?_
      rotate_left
      ·simp only [Act.put, List.setIfInBounds_toArray, List.set_cons_zero, List.set_cons_succ]
       rfl
      refine pure_ (i := 34) (N := some 51) (v := ?_) (a' := ?_) (bA 35 34359738367) rfl rfl (by kernel_rfl) (fun _ _ _ h => h) (Or.inl ⟨by rfl, ?_⟩) ?_ ?_
      rotate_left
      ·intro w'
       go_simp
       with_reducible rfl
      rotate_left
      ·simp only [Act.put, List.setIfInBounds_toArray, List.set_cons_zero, List.set_cons_succ]
       rfl
      refine done_ (by kernel_rfl) ?_
      have hBx := hB1
      clear hS hH0 hH1 hHeld cMR cJ cT
      go_wp2_with fail
      go_ret
      exact ⟨by rw [hk.out]; rfl, hBL.trans (hBx.mono hBL.size)⟩
     ·have hd0 : ((ls.length : Int) == 0) = false := by simp; exact fun e => h0 (by rw [e]; rfl)
      by_cases h1 : jl.length = ls.length
      ·have hd1 : ((jl.length : Int) != (ls.length : Int)) = false := by rw [h1]; simp
       cases gq with
       | false =>
        have hk := Lib.hid (hPn (by simp))
        clear hPn hPy
        refine start_ (n := 35) (S := fun w' => w'.cell? ⟨gb, 0, none⟩ = some (.string mk) ∧ w'.cell? ⟨gb, 1, none⟩ = some (.int .i64 kd) ∧ w'.cell? ⟨gb, 2, none⟩ = some (.slice AL ls.length cL) ∧ (Instr.lookup 42 (.map (some M)) (.string mk) false).run Tryz.prog w' = .ok (.bool false) w') (ds := []) (bA 35 0) (by kernel_rfl) rfl rfl ?_ (fun hHeld => ?_)
        ·exact hH0
        have hH1 := hHeld
        have hBd : Below W0.heap.size W0 W0.drew := below_drew (Below.refl _ _)
        refine pure_ (i := 0) (N := some 17) (v := ?_) (a' := ?_) (bA 35 1) rfl rfl (by kernel_rfl) (fun _ _ _ h => h) (Or.inl ⟨by rfl, ?_⟩) ?_ ?_
        rotate_left
        ·intro w'
         go_simp
         with_reducible rfl
        rotate_left
        ·simp only [Act.put, List.setIfInBounds_toArray, List.set_cons_zero, List.set_cons_succ]
         rfl
        refine take_ (i := 1) (N := some 18) (v := ?_) (a' := ?_) (bA 35 3) rfl rfl (by kernel_rfl) (fun _ _ _ h => h) (Or.inl ⟨by rfl, ?_⟩) hHeld ?_ ?_
        rotate_left
        ·rintro w' ⟨s0, s1, s2, s3⟩
         go_simp
         with_reducible rfl
        rotate_left
        ·simp only [Act.put, List.setIfInBounds_toArray, List.set_cons_zero, List.set_cons_succ]
         rfl
        refine one_ (i := 2) (N := some 19) (bA 35 7) rfl rfl (by kernel_rfl) (by decide) (fun K hK => ?_)
        refine goes_ Tryz.func18 (by kernel_rfl) rfl #[.string mk] (by rfl) rfl rfl (by (try simp only [List.map_toArray, List.map_cons, List.map_nil]); first | done | rfl) ?_
        refine (cMR _).mono ?_
        rintro e W1 ⟨rfl, nq, hq⟩
        refine ⟨_, rfl, ?_⟩
        have hB1 : Below W0.heap.size W0 W1 := by rw [hq]; exact pw_below_drewN hBd nq
        clear hq
        replace hHeld := hS W1 hB1
        refine hK.out _ _ hHeld (fun hHeld => ?_)
        clear hK K
        refine norm_ (a' := ?_) ?_ ?_
        rotate_left
        ·show Act.put _ (some 19) _ = _
         simp only [Act.put, List.setIfInBounds_toArray, List.set_cons_zero, List.set_cons_succ]
         rfl
        refine pure_ (i := 3) (N := some 20) (v := ?_) (a' := ?_) (bA 35 15) rfl rfl (by kernel_rfl) (fun _ _ _ h => h) (Or.inl ⟨by rfl, ?_⟩) ?_ ?_
        rotate_left
        ·intro w'
         go_simp
         with_reducible rfl
        rotate_left
        ·simp only [Act.put, List.setIfInBounds_toArray, List.set_cons_zero, List.set_cons_succ]
         rfl
        refine pure_ (i := 4) (N := some 21) (v := ?_) (a' := ?_) (bA 35 31) rfl rfl (by kernel_rfl) (fun _ _ _ h => h) (Or.inl ⟨by rfl, ?_⟩) ?_ ?_
        rotate_left
        ·intro w'
         go_simp
         with_reducible rfl
        rotate_left
        ·simp only [Act.put, List.setIfInBounds_toArray, List.set_cons_zero, List.set_cons_succ]
         rfl
        refine pure_ (i := 5) (N := some 22) (v := ?_) (a' := ?_) (bA 35 63) rfl rfl (by kernel_rfl) (fun _ _ _ h => h) (Or.inl ⟨by rfl, ?_⟩) ?_ ?_
        rotate_left
        ·intro w'
         go_simp
         with_reducible rfl
        rotate_left
        ·simp only [Act.put, List.setIfInBounds_toArray, List.set_cons_zero, List.set_cons_succ]
         rfl
        refine pure_ (i := 6) (N := some 23) (v := ?_) (a' := ?_) (bA 35 127) rfl rfl (by kernel_rfl) (fun _ _ _ h => h) (Or.inl ⟨by rfl, ?_⟩) ?_ ?_
        rotate_left
        ·intro w'
         go_simp
         with_reducible rfl
        rotate_left
        ·simp only [Act.put, List.setIfInBounds_toArray, List.set_cons_zero, List.set_cons_succ]
         rfl
        refine take_ (i := 7) (N := some 24) (v := ?_) (a' := ?_) (bA 35 255) rfl rfl (by kernel_rfl) (fun _ _ _ h => h) (Or.inl ⟨by rfl, ?_⟩) hHeld ?_ ?_
        rotate_left
        ·rintro w' ⟨s0, s1, s2, s3⟩
         go_simp
         with_reducible rfl
        rotate_left
        ·simp only [Act.put, List.setIfInBounds_toArray, List.set_cons_zero, List.set_cons_succ]
         rfl
        refine take_ (i := 8) (N := some 25) (v := ?_) (a' := ?_) (bA 35 511) rfl rfl (by kernel_rfl) (fun _ _ _ h => h) (Or.inl ⟨by rfl, ?_⟩) hHeld ?_ ?_
        rotate_left
        ·rintro w' ⟨s0, s1, s2, s3⟩
         go_simp
         with_reducible rfl
        rotate_left
        ·simp only [Act.put, List.setIfInBounds_toArray, List.set_cons_zero, List.set_cons_succ]
         rfl
        refine pure_ (i := 9) (N := some 26) (v := ?_) (a' := ?_) (bA 35 1023) rfl rfl (by kernel_rfl) (fun _ _ _ h => h) (Or.inl ⟨by rfl, ?_⟩) ?_ ?_
        rotate_left
        ·intro w'
         go_simp
         with_reducible rfl
        rotate_left
        ·simp only [Act.put, List.setIfInBounds_toArray, List.set_cons_zero, List.set_cons_succ]
         rfl
        refine pure_ (i := 10) (N := some 27) (v := ?_) (a' := ?_) (bA 35 2047) rfl rfl (by kernel_rfl) (fun _ _ _ h => h) (Or.inl ⟨by rfl, ?_⟩) ?_ ?_
        rotate_left
        ·intro w'
         go_simp
         with_reducible rfl
        rotate_left
        ·simp only [Act.put, List.setIfInBounds_toArray, List.set_cons_zero, List.set_cons_succ]
         rfl
        refine pure_ (i := 11) (N := some 28) (v := ?_) (a' := ?_) (bA 35 4095) rfl rfl (by kernel_rfl) (fun _ _ _ h => h) (Or.inl ⟨by rfl, ?_⟩) ?_ ?_
        rotate_left
        ·intro w'
         go_simp
         with_reducible rfl
        rotate_left
        ·simp only [Act.put, List.setIfInBounds_toArray, List.set_cons_zero, List.set_cons_succ]
         rfl
        refine take_ (i := 12) (N := some 29) (v := ?_) (a' := ?_) (bA 35 8191) rfl rfl (by kernel_rfl) (fun _ _ _ h => h) (Or.inl ⟨by rfl, ?_⟩) hHeld ?_ ?_
        rotate_left
        ·rintro w' ⟨s0, s1, s2, s3⟩
         go_simp
         with_reducible rfl
        rotate_left
        ·simp only [Act.put, List.setIfInBounds_toArray, List.set_cons_zero, List.set_cons_succ]
         rfl
        refine pure_ (i := 13) (N := some 30) (v := ?_) (a' := ?_) (bA 35 16383) rfl rfl (by kernel_rfl) (fun _ _ _ h => h) (Or.inl ⟨by rfl, ?_⟩) ?_ ?_
        rotate_left
        ·intro w'
         go_simp
         with_reducible rfl
        rotate_left
        ·simp only [Act.put, List.setIfInBounds_toArray, List.set_cons_zero, List.set_cons_succ]
         rfl
        refine pure_ (i := 14) (N := some 31) (v := ?_) (a' := ?_) (bA 35 32767) rfl rfl (by kernel_rfl) (fun _ _ _ h => h) (Or.inl ⟨by rfl, ?_⟩) ?_ ?_
        rotate_left
        ·intro w'
         go_simp
         with_reducible rfl
        rotate_left
        ·simp only [Act.put, List.setIfInBounds_toArray, List.set_cons_zero, List.set_cons_succ]
         rfl
        refine pure_ (i := 15) (N := some 32) (v := ?_) (a' := ?_) (bA 35 65535) rfl rfl (by kernel_rfl) (fun _ _ _ h => h) (Or.inl ⟨by rfl, ?_⟩) ?_ ?_
        rotate_left
        ·intro w'
         go_simp
         with_reducible rfl
        rotate_left
        ·simp only [Act.put, List.setIfInBounds_toArray, List.set_cons_zero, List.set_cons_succ]
         rfl
        refine pure_ (i := 16) (N := some 33) (v := ?_) (a' := ?_) (bA 35 131071) rfl rfl (by kernel_rfl) (fun _ _ _ h => h) (Or.inl ⟨by rfl, ?_⟩) ?_ ?_
        rotate_left
        ·intro w'
         go_simp
         with_reducible rfl
        rotate_left
        ·simp only [Act.put, List.setIfInBounds_toArray, List.set_cons_zero, List.set_cons_succ]
         rfl
        refine pure_ (i := 17) (N := some 34) (v := ?_) (a' := ?_) (bA 35 262143) rfl rfl (by kernel_rfl) (fun _ _ _ h => h) (Or.inl ⟨by rfl, ?_⟩) ?_ ?_
        rotate_left
        ·intro w'
         go_simp
         with_reducible rfl
        rotate_left
        ·simp only [Act.put, List.setIfInBounds_toArray, List.set_cons_zero, List.set_cons_succ]
         rfl
        refine take_ (i := 18) (N := some 35) (v := ?_) (a' := ?_) (bA 35 524287) rfl rfl (by kernel_rfl) (fun _ _ _ h => h) (Or.inl ⟨by rfl, ?_⟩) hHeld ?_ ?_
        rotate_left
        ·rintro w' ⟨s0, s1, s2, s3⟩
         go_simp
         with_reducible rfl
        rotate_left
        ·simp only [Act.put, List.setIfInBounds_toArray, List.set_cons_zero, List.set_cons_succ]
         rfl
        refine pure_ (i := 21) (N := some 38) (v := ?_) (a' := ?_) (bA 35 2621439) rfl rfl (by kernel_rfl) (fun _ _ _ h => h) (Or.inl ⟨by rfl, ?_⟩) ?_ ?_
        rotate_left
        ·intro w'
         go_simp
         with_reducible rfl
        rotate_left
        ·simp only [Act.put, List.setIfInBounds_toArray, List.set_cons_zero, List.set_cons_succ]
         rfl
        refine take_ (i := 22) (N := some 39) (v := ?_) (a' := ?_) (bA 35 6815743) rfl rfl (by kernel_rfl) (fun _ _ _ h => h) (Or.inl ⟨by rfl, ?_⟩) hHeld ?_ ?_
        rotate_left
        ·rintro w' ⟨s0, s1, s2, s3⟩
         go_simp
         with_reducible rfl
        rotate_left
        ·simp only [Act.put, List.setIfInBounds_toArray, List.set_cons_zero, List.set_cons_succ]
         rfl
        refine pure_ (i := 23) (N := some 40) (v := ?_) (a' := ?_) (bA 35 15204351) rfl rfl (by kernel_rfl) (fun _ _ _ h => h) (Or.inl ⟨by rfl, ?_⟩) ?_ ?_
        rotate_left
        ·intro w'
         go_simp
         with_reducible rfl
        rotate_left
        ·simp only [Act.put, List.setIfInBounds_toArray, List.set_cons_zero, List.set_cons_succ]
         rfl
        refine one_ (i := 19) (N := some 36) (bA 35 15728639) rfl rfl (by kernel_rfl) (by decide) (fun K hK => ?_)
        refine goes_ Tryz.func21 (by kernel_rfl) rfl #[.slice AL ls.length cL] (by rfl) rfl rfl (by (try simp only [List.map_toArray, List.map_cons, List.map_nil]); first | done | rfl) ?_
        refine (cJ _ hB1).mono ?_
        rintro e W2 ⟨vj, rfl, hRj, hbj⟩
        refine ⟨_, rfl, ?_⟩
        have hB2 := below_step hB1 hbj
        obtain ⟨Aj, cj, rfl⟩ := Kd.R_slice hRj
        clear hRj hbj
        replace hHeld := hS W2 hB2
        refine hK.out _ _ hHeld (fun hHeld => ?_)
        clear hK K
        refine norm_ (a' := ?_) ?_ ?_
        rotate_left
        ·show Act.put _ (some 36) _ = _
         simp only [Act.put, List.setIfInBounds_toArray, List.set_cons_zero, List.set_cons_succ]
         rfl
        refine pure_ (i := 20) (N := some 37) (v := ?_) (a' := ?_) (bA 35 16777215) rfl rfl (by kernel_rfl) (fun _ _ _ h => h) (Or.inl ⟨by rfl, ?_⟩) ?_ ?_
        rotate_left
        ·intro w'
         go_simp
         with_reducible rfl
        rotate_left
        ·simp only [Act.put, List.setIfInBounds_toArray, List.set_cons_zero, List.set_cons_succ]
         rfl
        refine pure_ (i := 24) (N := some 41) (v := ?_) (a' := ?_) (bA 35 33554431) rfl rfl (by kernel_rfl) (fun _ _ _ h => h) (Or.inl ⟨by rfl, ?_⟩) ?_ ?_
        rotate_left
        ·intro w'
         go_simp
         with_reducible rfl
        rotate_left
        ·simp only [Act.put, List.setIfInBounds_toArray, List.set_cons_zero, List.set_cons_succ]
         rfl
        refine pure_ (i := 25) (N := some 42) (v := ?_) (a' := ?_) (bA 35 67108863) rfl rfl (by kernel_rfl) (fun _ _ _ h => h) (Or.inl ⟨by rfl, ?_⟩) ?_ ?_
        rotate_left
        ·intro w'
         go_simp
         with_reducible rfl
        rotate_left
        ·simp only [Act.put, List.setIfInBounds_toArray, List.set_cons_zero, List.set_cons_succ]
         rfl
        refine pure_ (i := 26) (N := some 43) (v := ?_) (a' := ?_) (bA 35 134217727) rfl rfl (by kernel_rfl) (fun _ _ _ h => h) (Or.inl ⟨by rfl, ?_⟩) ?_ ?_
        rotate_left
        ·intro w'
         go_simp
         with_reducible rfl
        rotate_left
        ·simp only [Act.put, List.setIfInBounds_toArray, List.set_cons_zero, List.set_cons_succ]
         rfl
        refine pure_ (i := 27) (N := some 44) (v := ?_) (a' := ?_) (bA 35 268435455) rfl rfl (by kernel_rfl) (fun _ _ _ h => h) (Or.inl ⟨by rfl, ?_⟩) ?_ ?_
        rotate_left
        ·intro w'
         go_simp
         with_reducible rfl
        rotate_left
        ·simp only [Act.put, List.setIfInBounds_toArray, List.set_cons_zero, List.set_cons_succ]
         rfl
        refine pure_ (i := 28) (N := some 45) (v := ?_) (a' := ?_) (bA 35 536870911) rfl rfl (by kernel_rfl) (fun _ _ _ h => h) (Or.inl ⟨by rfl, ?_⟩) ?_ ?_
        rotate_left
        ·intro w'
         go_simp
         with_reducible rfl
        rotate_left
        ·simp only [Act.put, List.setIfInBounds_toArray, List.set_cons_zero, List.set_cons_succ]
         rfl
        refine take_ (i := 29) (N := some 46) (v := ?_) (a' := ?_) (bA 35 1073741823) rfl rfl (by kernel_rfl) (fun _ _ _ h => h) (Or.inl ⟨by rfl, ?_⟩) hHeld ?_ ?_
        rotate_left
        ·rintro w' ⟨s0, s1, s2, s3⟩
         go_simp
         with_reducible rfl
        rotate_left
        ·simp only [Act.put, List.setIfInBounds_toArray, List.set_cons_zero, List.set_cons_succ]
         rfl
        refine pure_ (i := 30) (N := some 47) (v := ?_) (a' := ?_) (bA 35 2147483647) rfl rfl (by kernel_rfl) (fun _ _ _ h => h) (Or.inl ⟨by rfl, ?_⟩) ?_ ?_
        rotate_left
        ·intro w'
         go_simp
         with_reducible rfl
        rotate_left
        ·simp only [Act.put, List.setIfInBounds_toArray, List.set_cons_zero, List.set_cons_succ]
         rfl
        refine take_ (i := 31) (N := some 48) (v := ?_) (a' := ?_) (bA 35 4294967295) rfl rfl (by kernel_rfl) (fun _ _ _ h => h) (Or.inl ⟨by rfl, ?_⟩) hHeld ?_ ?_
        rotate_left
        ·rintro w' ⟨s0, s1, s2, s3⟩
         go_simp
         with_reducible rfl
        rotate_left
        ·simp only [Act.put, List.setIfInBounds_toArray, List.set_cons_zero, List.set_cons_succ]
         rfl
        refine one_ (i := 32) (N := some 49) (bA 35 8589934591) rfl rfl (by kernel_rfl) (by decide) (fun K hK => ?_)
        refine goes_ Tryz.func59 (by kernel_rfl) rfl #[.pointer (some ⟨t, 0, none⟩), .int .i64 kd, .slice AL ls.length cL] (by rfl) rfl rfl (by (try simp only [List.map_toArray, List.map_cons, List.map_nil]); first | done | rfl) ?_
        refine (cT _ hB2).mono ?_
        rintro e W3 ⟨rfl, hbt⟩
        refine ⟨_, rfl, ?_⟩
        have hB3 := below_step hB2 hbt
        clear hbt
        replace hHeld := hS W3 hB3
        refine hK.out _ _ hHeld (fun hHeld => ?_)
        clear hK K
        refine norm_ (a' := ?_) ?_ ?_
        rotate_left
        ·show Act.put _ (some 49) _ = _
         simp only [Act.put, List.setIfInBounds_toArray, List.set_cons_zero, List.set_cons_succ]
         rfl
        refine pure_ (i := 33) (N := some 50) (v := ?_) (a' := ?_) (bA 35 17179869183) rfl rfl (by kernel_rfl) (fun _ _ _ h => h) (Or.inl ⟨by rfl, ?_⟩) ?_ ?_
        rotate_left
        ·intro w'
         go_simp
         with_reducible rfl
        rotate_left
        ·simp only [Act.put, List.setIfInBounds_toArray, List.set_cons_zero, List.set_cons_succ]
         rfl
        refine pure_ (i := 34) (N := some 51) (v := ?_) (a' := ?_) (bA 35 34359738367) rfl rfl (by kernel_rfl) (fun _ _ _ h => h) (Or.inl ⟨by rfl, ?_⟩) ?_ ?_
        rotate_left
        ·intro w'
         go_simp
         with_reducible rfl
        rotate_left
        ·simp only [Act.put, List.setIfInBounds_toArray, List.set_cons_zero, List.set_cons_succ]
         rfl
        refine done_ (by kernel_rfl) ?_
        have hBx := hB3
        clear hS hH0 hH1 hHeld cMR cJ cT
        go_wp2_with fail
        go_ret
        exact ⟨by rw [hk.out]; rfl, hBL.trans (hBx.mono hBL.size)⟩
       | true =>
        have hk := Lib.hid (hPy (by simp [h0, h1]))
        clear hPn hPy
        refine start_ (n := 35) (S := fun w' => w'.cell? ⟨gb, 0, none⟩ = some (.string mk) ∧ w'.cell? ⟨gb, 1, none⟩ = some (.int .i64 kd) ∧ w'.cell? ⟨gb, 2, none⟩ = some (.slice AL ls.length cL) ∧ (Instr.lookup 42 (.map (some M)) (.string mk) false).run Tryz.prog w' = .ok (.bool false) w') (ds := []) (bA 35 0) (by kernel_rfl) rfl rfl ?_ (fun hHeld => ?_)
        ·exact hH0
        have hH1 := hHeld
        have hBd : Below W0.heap.size W0 W0.drew := below_drew (Below.refl _ _)
        refine pure_ (i := 0) (N := some 17) (v := ?_) (a' := ?_) (bA 35 1) rfl rfl (by kernel_rfl) (fun _ _ _ h => h) (Or.inl ⟨by rfl, ?_⟩) ?_ ?_
        rotate_left
        ·intro w'
         go_simp
         with_reducible rfl
        rotate_left
        ·simp only [Act.put, List.setIfInBounds_toArray, List.set_cons_zero, List.set_cons_succ]
         rfl
        refine take_ (i := 1) (N := some 18) (v := ?_) (a' := ?_) (bA 35 3) rfl rfl (by kernel_rfl) (fun _ _ _ h => h) (Or.inl ⟨by rfl, ?_⟩) hHeld ?_ ?_
        rotate_left
        ·rintro w' ⟨s0, s1, s2, s3⟩
         go_simp
         with_reducible rfl
        rotate_left
        ·simp only [Act.put, List.setIfInBounds_toArray, List.set_cons_zero, List.set_cons_succ]
         rfl
        refine one_ (i := 2) (N := some 19) (bA 35 7) rfl rfl (by kernel_rfl) (by decide) (fun K hK => ?_)
        refine goes_ Tryz.func18 (by kernel_rfl) rfl #[.string mk] (by rfl) rfl rfl (by (try simp only [List.map_toArray, List.map_cons, List.map_nil]); first | done | rfl) ?_
        refine (cMR _).mono ?_
        rintro e W1 ⟨rfl, nq, hq⟩
        refine ⟨_, rfl, ?_⟩
        have hB1 : Below W0.heap.size W0 W1 := by rw [hq]; exact pw_below_drewN hBd nq
        clear hq
        replace hHeld := hS W1 hB1
        refine hK.out _ _ hHeld (fun hHeld => ?_)
        clear hK K
        refine norm_ (a' := ?_) ?_ ?_
        rotate_left
        ·show Act.put _ (some 19) _ = _
         simp only [Act.put, List.setIfInBounds_toArray, List.set_cons_zero, List.set_cons_succ]
         rfl
        refine pure_ (i := 3) (N := some 20) (v := ?_) (a' := ?_) (bA 35 15) rfl rfl (by kernel_rfl) (fun _ _ _ h => h) (Or.inl ⟨by rfl, ?_⟩) ?_ ?_
        rotate_left
        ·intro w'
         go_simp
         with_reducible rfl
        rotate_left
        ·simp only [Act.put, List.setIfInBounds_toArray, List.set_cons_zero, List.set_cons_succ]
         rfl
        refine pure_ (i := 4) (N := some 21) (v := ?_) (a' := ?_) (bA 35 31) rfl rfl (by kernel_rfl) (fun _ _ _ h => h) (Or.inl ⟨by rfl, ?_⟩) ?_ ?_
        rotate_left
        ·intro w'
         go_simp
         with_reducible rfl
        rotate_left
        ·simp only [Act.put, List.setIfInBounds_toArray, List.set_cons_zero, List.set_cons_succ]
         rfl
        refine pure_ (i := 5) (N := some 22) (v := ?_) (a' := ?_) (bA 35 63) rfl rfl (by kernel_rfl) (fun _ _ _ h => h) (Or.inl ⟨by rfl, ?_⟩) ?_ ?_
        rotate_left
        ·intro w'
         go_simp
         with_reducible rfl
        rotate_left
        ·simp only [Act.put, List.setIfInBounds_toArray, List.set_cons_zero, List.set_cons_succ]
         rfl
        refine pure_ (i := 6) (N := some 23) (v := ?_) (a' := ?_) (bA 35 127) rfl rfl (by kernel_rfl) (fun _ _ _ h => h) (Or.inl ⟨by rfl, ?_⟩) ?_ ?_
        rotate_left
        ·intro w'
         go_simp
         with_reducible rfl
        rotate_left
        ·simp only [Act.put, List.setIfInBounds_toArray, List.set_cons_zero, List.set_cons_succ]
         rfl
        refine take_ (i := 7) (N := some 24) (v := ?_) (a' := ?_) (bA 35 255) rfl rfl (by kernel_rfl) (fun _ _ _ h => h) (Or.inl ⟨by rfl, ?_⟩) hHeld ?_ ?_
        rotate_left
        ·rintro w' ⟨s0, s1, s2, s3⟩
         go_simp
         with_reducible rfl
        rotate_left
        ·simp only [Act.put, List.setIfInBounds_toArray, List.set_cons_zero, List.set_cons_succ]
         rfl
        refine take_ (i := 8) (N := some 25) (v := ?_) (a' := ?_) (bA 35 511) rfl rfl (by kernel_rfl) (fun _ _ _ h => h) (Or.inl ⟨by rfl, ?_⟩) hHeld ?_ ?_
        rotate_left
        ·rintro w' ⟨s0, s1, s2, s3⟩
         go_simp
         with_reducible rfl
        rotate_left
        ·simp only [Act.put, List.setIfInBounds_toArray, List.set_cons_zero, List.set_cons_succ]
         rfl
        refine pure_ (i := 9) (N := some 26) (v := ?_) (a' := ?_) (bA 35 1023) rfl rfl (by kernel_rfl) (fun _ _ _ h => h) (Or.inl ⟨by rfl, ?_⟩) ?_ ?_
        rotate_left
        ·intro w'
         go_simp
         with_reducible rfl
        rotate_left
        ·simp only [Act.put, List.setIfInBounds_toArray, List.set_cons_zero, List.set_cons_succ]
         rfl
        refine pure_ (i := 10) (N := some 27) (v := ?_) (a' := ?_) (bA 35 2047) rfl rfl (by kernel_rfl) (fun _ _ _ h => h) (Or.inl ⟨by rfl, ?_⟩) ?_ ?_
        rotate_left
        ·intro w'
         go_simp
         with_reducible rfl
        rotate_left
        ·simp only [Act.put, List.setIfInBounds_toArray, List.set_cons_zero, List.set_cons_succ]
         rfl
        refine pure_ (i := 11) (N := some 28) (v := ?_) (a' := ?_) (bA 35 4095) rfl rfl (by kernel_rfl) (fun _ _ _ h => h) (Or.inl ⟨by rfl, ?_⟩) ?_ ?_
        rotate_left
        ·intro w'
         go_simp
         with_reducible rfl
        rotate_left
        ·simp only [Act.put, List.setIfInBounds_toArray, List.set_cons_zero, List.set_cons_succ]
         rfl
        refine take_ (i := 12) (N := some 29) (v := ?_) (a' := ?_) (bA 35 8191) rfl rfl (by kernel_rfl) (fun _ _ _ h => h) (Or.inl ⟨by rfl, ?_⟩) hHeld ?_ ?_
        rotate_left
        ·rintro w' ⟨s0, s1, s2, s3⟩
         go_simp
         with_reducible rfl
        rotate_left
        ·simp only [Act.put, List.setIfInBounds_toArray, List.set_cons_zero, List.set_cons_succ]
         rfl
        refine pure_ (i := 13) (N := some 30) (v := ?_) (a' := ?_) (bA 35 16383) rfl rfl (by kernel_rfl) (fun _ _ _ h => h) (Or.inl ⟨by rfl, ?_⟩) ?_ ?_
        rotate_left
        ·intro w'
         go_simp
         with_reducible rfl
        rotate_left
        ·simp only [Act.put, List.setIfInBounds_toArray, List.set_cons_zero, List.set_cons_succ]
         rfl
        refine pure_ (i := 14) (N := some 31) (v := ?_) (a' := ?_) (bA 35 32767) rfl rfl (by kernel_rfl) (fun _ _ _ h => h) (Or.inl ⟨by rfl, ?_⟩) ?_ ?_
        rotate_left
        ·intro w'
         go_simp
         with_reducible rfl
        rotate_left
        ·simp only [Act.put, List.setIfInBounds_toArray, List.set_cons_zero, List.set_cons_succ]
         rfl
        refine pure_ (i := 15) (N := some 32) (v := ?_) (a' := ?_) (bA 35 65535) rfl rfl (by kernel_rfl) (fun _ _ _ h => h) (Or.inl ⟨by rfl, ?_⟩) ?_ ?_
        rotate_left
        ·intro w'
         go_simp
         with_reducible rfl
        rotate_left
        ·simp only [Act.put, List.setIfInBounds_toArray, List.set_cons_zero, List.set_cons_succ]
         rfl
        refine pure_ (i := 16) (N := some 33) (v := ?_) (a' := ?_) (bA 35 131071) rfl rfl (by kernel_rfl) (fun _ _ _ h => h) (Or.inl ⟨by rfl, ?_⟩) ?_ ?_
        rotate_left
        ·intro w'
         go_simp
         with_reducible rfl
        rotate_left
        ·simp only [Act.put, List.setIfInBounds_toArray, List.set_cons_zero, List.set_cons_succ]
         rfl
        refine pure_ (i := 17) (N := some 34) (v := ?_) (a' := ?_) (bA 35 262143) rfl rfl (by kernel_rfl) (fun _ _ _ h => h) (Or.inl ⟨by rfl, ?_⟩) ?_ ?_
        rotate_left
        ·intro w'
         go_simp
         with_reducible rfl
        rotate_left
        ·simp only [Act.put, List.setIfInBounds_toArray, List.set_cons_zero, List.set_cons_succ]
         rfl
        refine take_ (i := 18) (N := some 35) (v := ?_) (a' := ?_) (bA 35 524287) rfl rfl (by kernel_rfl) (fun _ _ _ h => h) (Or.inl ⟨by rfl, ?_⟩) hHeld ?_ ?_
        rotate_left
        ·rintro w' ⟨s0, s1, s2, s3⟩
         go_simp
         with_reducible rfl
        rotate_left
        ·simp only [Act.put, List.setIfInBounds_toArray, List.set_cons_zero, List.set_cons_succ]
         rfl
        refine pure_ (i := 21) (N := some 38) (v := ?_) (a' := ?_) (bA 35 2621439) rfl rfl (by kernel_rfl) (fun _ _ _ h => h) (Or.inl ⟨by rfl, ?_⟩) ?_ ?_
        rotate_left
        ·intro w'
         go_simp
         with_reducible rfl
        rotate_left
        ·simp only [Act.put, List.setIfInBounds_toArray, List.set_cons_zero, List.set_cons_succ]
         rfl
        refine take_ (i := 22) (N := some 39) (v := ?_) (a' := ?_) (bA 35 6815743) rfl rfl (by kernel_rfl) (fun _ _ _ h => h) (Or.inl ⟨by rfl, ?_⟩) hHeld ?_ ?_
        rotate_left
        ·rintro w' ⟨s0, s1, s2, s3⟩
         go_simp
         with_reducible rfl
        rotate_left
        ·simp only [Act.put, List.setIfInBounds_toArray, List.set_cons_zero, List.set_cons_succ]
         rfl
        refine pure_ (i := 23) (N := some 40) (v := ?_) (a' := ?_) (bA 35 15204351) rfl rfl (by kernel_rfl) (fun _ _ _ h => h) (Or.inl ⟨by rfl, ?_⟩) ?_ ?_
        rotate_left
        ·intro w'
         go_simp
         with_reducible rfl
        rotate_left
        ·simp only [Act.put, List.setIfInBounds_toArray, List.set_cons_zero, List.set_cons_succ]
         rfl
        refine one_ (i := 19) (N := some 36) (bA 35 15728639) rfl rfl (by kernel_rfl) (by decide) (fun K hK => ?_)
        refine goes_ Tryz.func21 (by kernel_rfl) rfl #[.slice AL ls.length cL] (by rfl) rfl rfl (by (try simp only [List.map_toArray, List.map_cons, List.map_nil]); first | done | rfl) ?_
        refine (cJ _ hB1).mono ?_
        rintro e W2 ⟨vj, rfl, hRj, hbj⟩
        refine ⟨_, rfl, ?_⟩
        have hB2 := below_step hB1 hbj
        obtain ⟨Aj, cj, rfl⟩ := Kd.R_slice hRj
        clear hRj hbj
        replace hHeld := hS W2 hB2
        refine hK.out _ _ hHeld (fun hHeld => ?_)
        clear hK K
        refine norm_ (a' := ?_) ?_ ?_
        rotate_left
        ·show Act.put _ (some 36) _ = _
         simp only [Act.put, List.setIfInBounds_toArray, List.set_cons_zero, List.set_cons_succ]
         rfl
        refine pure_ (i := 20) (N := some 37) (v := ?_) (a' := ?_) (bA 35 16777215) rfl rfl (by kernel_rfl) (fun _ _ _ h => h) (Or.inl ⟨by rfl, ?_⟩) ?_ ?_
        rotate_left
        ·intro w'
         go_simp
         with_reducible rfl
        rotate_left
        ·simp only [Act.put, List.setIfInBounds_toArray, List.set_cons_zero, List.set_cons_succ]
         rfl
        refine pure_ (i := 24) (N := some 41) (v := ?_) (a' := ?_) (bA 35 33554431) rfl rfl (by kernel_rfl) (fun _ _ _ h => h) (Or.inl ⟨by rfl, ?_⟩) ?_ ?_
        rotate_left
        ·intro w'
         go_simp
         with_reducible rfl
        rotate_left
        ·simp only [Act.put, List.setIfInBounds_toArray, List.set_cons_zero, List.set_cons_succ]
         rfl
        refine pure_ (i := 25) (N := some 42) (v := ?_) (a' := ?_) (bA 35 67108863) rfl rfl (by kernel_rfl) (fun _ _ _ h => h) (Or.inl ⟨by rfl, ?_⟩) ?_ ?_
        rotate_left
        ·intro w'
         go_simp
         with_reducible rfl
        rotate_left
        ·simp only [Act.put, List.setIfInBounds_toArray, List.set_cons_zero, List.set_cons_succ]
         rfl
        refine pure_ (i := 26) (N := some 43) (v := ?_) (a' := ?_) (bA 35 134217727) rfl rfl (by kernel_rfl) (fun _ _ _ h => h) (Or.inl ⟨by rfl, ?_⟩) ?_ ?_
        rotate_left
        ·intro w'
         go_simp
         with_reducible rfl
        rotate_left
        ·simp only [Act.put, List.setIfInBounds_toArray, List.set_cons_zero, List.set_cons_succ]
         rfl
        refine pure_ (i := 27) (N := some 44) (v := ?_) (a' := ?_) (bA 35 268435455) rfl rfl (by kernel_rfl) (fun _ _ _ h => h) (Or.inl ⟨by rfl, ?_⟩) ?_ ?_
        rotate_left
        ·intro w'
         go_simp
         with_reducible rfl
        rotate_left
        ·simp only [Act.put, List.setIfInBounds_toArray, List.set_cons_zero, List.set_cons_succ]
         rfl
        refine pure_ (i := 28) (N := some 45) (v := ?_) (a' := ?_) (bA 35 536870911) rfl rfl (by kernel_rfl) (fun _ _ _ h => h) (Or.inl ⟨by rfl, ?_⟩) ?_ ?_
        rotate_left
        ·intro w'
         go_simp
         with_reducible rfl
        rotate_left
        ·simp only [Act.put, List.setIfInBounds_toArray, List.set_cons_zero, List.set_cons_succ]
         rfl
        refine take_ (i := 29) (N := some 46) (v := ?_) (a' := ?_) (bA 35 1073741823) rfl rfl (by kernel_rfl) (fun _ _ _ h => h) (Or.inl ⟨by rfl, ?_⟩) hHeld ?_ ?_
        rotate_left
        ·rintro w' ⟨s0, s1, s2, s3⟩
         go_simp
         with_reducible rfl
        rotate_left
        ·simp only [Act.put, List.setIfInBounds_toArray, List.set_cons_zero, List.set_cons_succ]
         rfl
        refine pure_ (i := 30) (N := some 47) (v := ?_) (a' := ?_) (bA 35 2147483647) rfl rfl (by kernel_rfl) (fun _ _ _ h => h) (Or.inl ⟨by rfl, ?_⟩) ?_ ?_
        rotate_left
        ·intro w'
         go_simp
         with_reducible rfl
        rotate_left
        ·simp only [Act.put, List.setIfInBounds_toArray, List.set_cons_zero, List.set_cons_succ]
         rfl
        refine take_ (i := 31) (N := some 48) (v := ?_) (a' := ?_) (bA 35 4294967295) rfl rfl (by kernel_rfl) (fun _ _ _ h => h) (Or.inl ⟨by rfl, ?_⟩) hHeld ?_ ?_
        rotate_left
        ·rintro w' ⟨s0, s1, s2, s3⟩
         go_simp
         with_reducible rfl
        rotate_left
        ·simp only [Act.put, List.setIfInBounds_toArray, List.set_cons_zero, List.set_cons_succ]
         rfl
        refine one_ (i := 32) (N := some 49) (bA 35 8589934591) rfl rfl (by kernel_rfl) (by decide) (fun K hK => ?_)
        refine goes_ Tryz.func59 (by kernel_rfl) rfl #[.pointer (some ⟨t, 0, none⟩), .int .i64 kd, .slice AL ls.length cL] (by rfl) rfl rfl (by (try simp only [List.map_toArray, List.map_cons, List.map_nil]); first | done | rfl) ?_
        refine (cT _ hB2).mono ?_
        rintro e W3 ⟨rfl, hbt⟩
        refine ⟨_, rfl, ?_⟩
        have hB3 := below_step hB2 hbt
        clear hbt
        replace hHeld := hS W3 hB3
        refine hK.out _ _ hHeld (fun hHeld => ?_)
        clear hK K
        refine norm_ (a' := ?_) ?_ ?_
        rotate_left
        ·show Act.put _ (some 49) _ = _
         simp only [Act.put, List.setIfInBounds_toArray, List.set_cons_zero, List.set_cons_succ]
         rfl
        refine pure_ (i := 33) (N := some 50) (v := ?_) (a' := ?_) (bA 35 17179869183) rfl rfl (by kernel_rfl) (fun _ _ _ h => h) (Or.inl ⟨by rfl, ?_⟩) ?_ ?_
        rotate_left
        ·intro w'
         go_simp
         with_reducible rfl
        rotate_left
        ·simp only [Act.put, List.setIfInBounds_toArray, List.set_cons_zero, List.set_cons_succ]
         rfl
        refine pure_ (i := 34) (N := some 51) (v := ?_) (a' := ?_) (bA 35 34359738367) rfl rfl (by kernel_rfl) (fun _ _ _ h => h) (Or.inl ⟨by rfl, ?_⟩) ?_ ?_
        rotate_left
        ·intro w'
         go_simp
         with_reducible rfl
        rotate_left
        ·simp only [Act.put, List.setIfInBounds_toArray, List.set_cons_zero, List.set_cons_succ]
         rfl
        refine done_ (by kernel_rfl) ?_
        have hBx := hB3
        clear hS hH0 hH1 cMR cJ cT
        obtain ⟨q0, q1, q2, q3⟩ := hHeld
        have hM3 := hML.below hBx
        have hbk3 := blk_below hbk hBx
        have hB3' := hBL.trans (hBx.mono hBL.size)
        clear q1 q2 q3
        obtain ⟨w5, hrun, hm5, hgr⟩ := hM3.put mk hs1 (by omega)
        have hB5 : Below w.heap.size w w5 := hB3'.grown hgr hB3'.size (fun j hj => by cases hj; exact hMw)
        rw [← htk.out] at hm5 hk
        clear hM3 hbk3 hML hbk
        go_wp2_with fail
        exact ⟨⟨i + 1, by omega, by simp, ⟨hk.out, hm5⟩, hB5⟩, by simp [intOf]; omega⟩
      ·have hd1 : ((jl.length : Int) != (ls.length : Int)) = true := by simp; omega
       have hk := Lib.hid (hPn (by simp [h1]))
       clear hPn hPy
       refine start_ (n := 35) (S := fun w' => w'.cell? ⟨gb, 0, none⟩ = some (.string mk) ∧ w'.cell? ⟨gb, 1, none⟩ = some (.int .i64 kd) ∧ w'.cell? ⟨gb, 2, none⟩ = some (.slice AL ls.length cL) ∧ (Instr.lookup 42 (.map (some M)) (.string mk) false).run Tryz.prog w' = .ok (.bool false) w') (ds := []) (bA 35 0) (by kernel_rfl) rfl rfl ?_ (fun hHeld => ?_)
       ·exact hH0
       have hH1 := hHeld
       have hBd : Below W0.heap.size W0 W0.drew := below_drew (Below.refl _ _)
       refine pure_ (i := 0) (N := some 17) (v := ?_) (a' := ?_) (bA 35 1) rfl rfl (by kernel_rfl) (fun _ _ _ h => h) (Or.inl ⟨by rfl, ?_⟩) ?_ ?_
       rotate_left
       ·intro w'
        go_simp
        with_reducible rfl
       rotate_left
       ·simp only [Act.put, List.setIfInBounds_toArray, List.set_cons_zero, List.set_cons_succ]
        rfl
       refine take_ (i := 1) (N := some 18) (v := ?_) (a' := ?_) (bA 35 3) rfl rfl (by kernel_rfl) (fun _ _ _ h => h) (Or.inl ⟨by rfl, ?_⟩) hHeld ?_ ?_
       rotate_left
       ·rintro w' ⟨s0, s1, s2, s3⟩
        go_simp
        with_reducible rfl
       rotate_left
       ·simp only [Act.put, List.setIfInBounds_toArray, List.set_cons_zero, List.set_cons_succ]
        rfl
       refine one_ (i := 2) (N := some 19) (bA 35 7) rfl rfl (by kernel_rfl) (by decide) (fun K hK => ?_)
       refine goes_ Tryz.func18 (by kernel_rfl) rfl #[.string mk] (by rfl) rfl rfl (by (try simp only [List.map_toArray, List.map_cons, List.map_nil]); first | done | rfl) ?_
       refine (cMR _).mono ?_
       rintro e W1 ⟨rfl, nq, hq⟩
       refine ⟨_, rfl, ?_⟩
       have hB1 : Below W0.heap.size W0 W1 := by rw [hq]; exact pw_below_drewN hBd nq
       clear hq
       replace hHeld := hS W1 hB1
       refine hK.out _ _ hHeld (fun hHeld => ?_)
       clear hK K
       refine norm_ (a' := ?_) ?_ ?_
       rotate_left
       ·show Act.put _ (some 19) _ = _
        simp only [Act.put, List.setIfInBounds_toArray, List.set_cons_zero, List.set_cons_succ]
        rfl
       refine pure_ (i := 3) (N := some 20) (v := ?_) (a' := ?_) (bA 35 15) rfl rfl (by kernel_rfl) (fun _ _ _ h => h) (Or.inl ⟨by rfl, ?_⟩) ?_ ?_
       rotate_left
       ·intro w'
        go_simp
        with_reducible rfl
       rotate_left
       ·simp only [Act.put, List.setIfInBounds_toArray, List.set_cons_zero, List.set_cons_succ]
        rfl
       refine pure_ (i := 4) (N := some 21) (v := ?_) (a' := ?_) (bA 35 31) rfl rfl (by kernel_rfl) (fun _ _ _ h => h) (Or.inl ⟨by rfl, ?_⟩) ?_ ?_
       rotate_left
       ·intro w'
        go_simp
        with_reducible rfl
       rotate_left
       ·simp only [Act.put, List.setIfInBounds_toArray, List.set_cons_zero, List.set_cons_succ]
        rfl
       refine pure_ (i := 5) (N := some 22) (v := ?_) (a' := ?_) (bA 35 63) rfl rfl (by kernel_rfl) (fun _ _ _ h => h) (Or.inl ⟨by rfl, ?_⟩) ?_ ?_
       rotate_left
       ·intro w'
        go_simp
        with_reducible rfl
       rotate_left
       ·simp only [Act.put, List.setIfInBounds_toArray, List.set_cons_zero, List.set_cons_succ]
        rfl
       refine pure_ (i := 6) (N := some 23) (v := ?_) (a' := ?_) (bA 35 127) rfl rfl (by kernel_rfl) (fun _ _ _ h => h) (Or.inl ⟨by rfl, ?_⟩) ?_ ?_
       rotate_left
       ·intro w'
        go_simp
        with_reducible rfl
       rotate_left
       ·simp only [Act.put, List.setIfInBounds_toArray, List.set_cons_zero, List.set_cons_succ]
        rfl
       refine take_ (i := 7) (N := some 24) (v := ?_) (a' := ?_) (bA 35 255) rfl rfl (by kernel_rfl) (fun _ _ _ h => h) (Or.inl ⟨by rfl, ?_⟩) hHeld ?_ ?_
       rotate_left
       ·rintro w' ⟨s0, s1, s2, s3⟩
        go_simp
        with_reducible rfl
       rotate_left
       ·simp only [Act.put, List.setIfInBounds_toArray, List.set_cons_zero, List.set_cons_succ]
        rfl
       refine take_ (i := 8) (N := some 25) (v := ?_) (a' := ?_) (bA 35 511) rfl rfl (by kernel_rfl) (fun _ _ _ h => h) (Or.inl ⟨by rfl, ?_⟩) hHeld ?_ ?_
       rotate_left
       ·rintro w' ⟨s0, s1, s2, s3⟩
        go_simp
        with_reducible rfl
       rotate_left
       ·simp only [Act.put, List.setIfInBounds_toArray, List.set_cons_zero, List.set_cons_succ]
        rfl
       refine pure_ (i := 9) (N := some 26) (v := ?_) (a' := ?_) (bA 35 1023) rfl rfl (by kernel_rfl) (fun _ _ _ h => h) (Or.inl ⟨by rfl, ?_⟩) ?_ ?_
       rotate_left
       ·intro w'
        go_simp
        with_reducible rfl
       rotate_left
       ·simp only [Act.put, List.setIfInBounds_toArray, List.set_cons_zero, List.set_cons_succ]
        rfl
       refine pure_ (i := 10) (N := some 27) (v := ?_) (a' := ?_) (bA 35 2047) rfl rfl (by kernel_rfl) (fun _ _ _ h => h) (Or.inl ⟨by rfl, ?_⟩) ?_ ?_
       rotate_left
       ·intro w'
        go_simp
        with_reducible rfl
       rotate_left
       ·simp only [Act.put, List.setIfInBounds_toArray, List.set_cons_zero, List.set_cons_succ]
        rfl
       refine pure_ (i := 11) (N := some 28) (v := ?_) (a' := ?_) (bA 35 4095) rfl rfl (by kernel_rfl) (fun _ _ _ h => h) (Or.inl ⟨by rfl, ?_⟩) ?_ ?_
       rotate_left
       ·intro w'
        go_simp
        with_reducible rfl
       rotate_left
       ·simp only [Act.put, List.setIfInBounds_toArray, List.set_cons_zero, List.set_cons_succ]
        rfl
       refine take_ (i := 12) (N := some 29) (v := ?_) (a' := ?_) (bA 35 8191) rfl rfl (by kernel_rfl) (fun _ _ _ h => h) (Or.inl ⟨by rfl, ?_⟩) hHeld ?_ ?_
       rotate_left
       ·rintro w' ⟨s0, s1, s2, s3⟩
        go_simp
        with_reducible rfl
       rotate_left
       ·simp only [Act.put, List.setIfInBounds_toArray, List.set_cons_zero, List.set_cons_succ]
        rfl
       refine pure_ (i := 13) (N := some 30) (v := ?_) (a' := ?_) (bA 35 16383) rfl rfl (by kernel_rfl) (fun _ _ _ h => h) (Or.inl ⟨by rfl, ?_⟩) ?_ ?_
       rotate_left
       ·intro w'
        go_simp
        with_reducible rfl
       rotate_left
       ·simp only [Act.put, List.setIfInBounds_toArray, List.set_cons_zero, List.set_cons_succ]
        rfl
       refine pure_ (i := 14) (N := some 31) (v := ?_) (a' := ?_) (bA 35 32767) rfl rfl (by kernel_rfl) (fun _ _ _ h => h) (Or.inl ⟨by rfl, ?_⟩) ?_ ?_
       rotate_left
       ·intro w'
        go_simp
        with_reducible rfl
       rotate_left
       ·simp only [Act.put, List.setIfInBounds_toArray, List.set_cons_zero, List.set_cons_succ]
        rfl
       refine pure_ (i := 15) (N := some 32) (v := ?_) (a' := ?_) (bA 35 65535) rfl rfl (by kernel_rfl) (fun _ _ _ h => h) (Or.inl ⟨by rfl, ?_⟩) ?_ ?_
       rotate_left
       ·intro w'
        go_simp
        with_reducible rfl
       rotate_left
       ·simp only [Act.put, List.setIfInBounds_toArray, List.set_cons_zero, List.set_cons_succ]
        rfl
       refine pure_ (i := 16) (N := some 33) (v := ?_) (a' := ?_) (bA 35 131071) rfl rfl (by kernel_rfl) (fun _ _ _ h => h) (Or.inl ⟨by rfl, ?_⟩) ?_ ?_
       rotate_left
       ·intro w'
        go_simp
        with_reducible rfl
       rotate_left
       ·simp only [Act.put, List.setIfInBounds_toArray, List.set_cons_zero, List.set_cons_succ]
        rfl
       refine pure_ (i := 17) (N := some 34) (v := ?_) (a' := ?_) (bA 35 262143) rfl rfl (by kernel_rfl) (fun _ _ _ h => h) (Or.inl ⟨by rfl, ?_⟩) ?_ ?_
       rotate_left
       ·intro w'
        go_simp
        with_reducible rfl
       rotate_left
       ·simp only [Act.put, List.setIfInBounds_toArray, List.set_cons_zero, List.set_cons_succ]
        rfl
       refine take_ (i := 18) (N := some 35) (v := ?_) (a' := ?_) (bA 35 524287) rfl rfl (by kernel_rfl) (fun _ _ _ h => h) (Or.inl ⟨by rfl, ?_⟩) hHeld ?_ ?_
       rotate_left
       ·rintro w' ⟨s0, s1, s2, s3⟩
        go_simp
        with_reducible rfl
       rotate_left
       ·simp only [Act.put, List.setIfInBounds_toArray, List.set_cons_zero, List.set_cons_succ]
        rfl
       refine pure_ (i := 21) (N := some 38) (v := ?_) (a' := ?_) (bA 35 2621439) rfl rfl (by kernel_rfl) (fun _ _ _ h => h) (Or.inl ⟨by rfl, ?_⟩) ?_ ?_
       rotate_left
       ·intro w'
        go_simp
        with_reducible rfl
       rotate_left
       ·simp only [Act.put, List.setIfInBounds_toArray, List.set_cons_zero, List.set_cons_succ]
        rfl
       refine take_ (i := 22) (N := some 39) (v := ?_) (a' := ?_) (bA 35 6815743) rfl rfl (by kernel_rfl) (fun _ _ _ h => h) (Or.inl ⟨by rfl, ?_⟩) hHeld ?_ ?_
       rotate_left
       ·rintro w' ⟨s0, s1, s2, s3⟩
        go_simp
        with_reducible rfl
       rotate_left
       ·simp only [Act.put, List.setIfInBounds_toArray, List.set_cons_zero, List.set_cons_succ]
        rfl
       refine pure_ (i := 23) (N := some 40) (v := ?_) (a' := ?_) (bA 35 15204351) rfl rfl (by kernel_rfl) (fun _ _ _ h => h) (Or.inl ⟨by rfl, ?_⟩) ?_ ?_
       rotate_left
       ·intro w'
        go_simp
        with_reducible rfl
       rotate_left
       ·simp only [Act.put, List.setIfInBounds_toArray, List.set_cons_zero, List.set_cons_succ]
        rfl
       refine one_ (i := 19) (N := some 36) (bA 35 15728639) rfl rfl (by kernel_rfl) (by decide) (fun K hK => ?_)
       refine goes_ Tryz.func21 (by kernel_rfl) rfl #[.slice AL ls.length cL] (by rfl) rfl rfl (by (try simp only [List.map_toArray, List.map_cons, List.map_nil]); first | done | rfl) ?_
       refine (cJ _ hB1).mono ?_
       rintro e W2 ⟨vj, rfl, hRj, hbj⟩
       refine ⟨_, rfl, ?_⟩
       have hB2 := below_step hB1 hbj
       obtain ⟨Aj, cj, rfl⟩ := Kd.R_slice hRj
       clear hRj hbj
       replace hHeld := hS W2 hB2
       refine hK.out _ _ hHeld (fun hHeld => ?_)
       clear hK K
       refine norm_ (a' := ?_) ?_ ?_
       rotate_left
       ·show Act.put _ (some 36) _ = _
        simp only [Act.put, List.setIfInBounds_toArray, List.set_cons_zero, List.set_cons_succ]
        rfl
       refine pure_ (i := 20) (N := some 37) (v := ?_) (a' := ?_) (bA 35 16777215) rfl rfl (by kernel_rfl) (fun _ _ _ h => h) (Or.inl ⟨by rfl, ?_⟩) ?_ ?_
       rotate_left
       ·intro w'
        go_simp
        with_reducible rfl
       rotate_left
       ·simp only [Act.put, List.setIfInBounds_toArray, List.set_cons_zero, List.set_cons_succ]
        rfl
       refine pure_ (i := 24) (N := some 41) (v := ?_) (a' := ?_) (bA 35 33554431) rfl rfl (by kernel_rfl) (fun _ _ _ h => h) (Or.inl ⟨by rfl, ?_⟩) ?_ ?_
       rotate_left
       ·intro w'
        go_simp
        with_reducible rfl
       rotate_left
       ·simp only [Act.put, List.setIfInBounds_toArray, List.set_cons_zero, List.set_cons_succ]
        rfl
       refine pure_ (i := 25) (N := some 42) (v := ?_) (a' := ?_) (bA 35 67108863) rfl rfl (by kernel_rfl) (fun _ _ _ h => h) (Or.inl ⟨by rfl, ?_⟩) ?_ ?_
       rotate_left
       ·intro w'
        go_simp
        with_reducible rfl
       rotate_left
       ·simp only [Act.put, List.setIfInBounds_toArray, List.set_cons_zero, List.set_cons_succ]
        rfl
       refine pure_ (i := 26) (N := some 43) (v := ?_) (a' := ?_) (bA 35 134217727) rfl rfl (by kernel_rfl) (fun _ _ _ h => h) (Or.inl ⟨by rfl, ?_⟩) ?_ ?_
       rotate_left
       ·intro w'
        go_simp
        with_reducible rfl
       rotate_left
       ·simp only [Act.put, List.setIfInBounds_toArray, List.set_cons_zero, List.set_cons_succ]
        rfl
       refine pure_ (i := 27) (N := some 44) (v := undef) (a' := ?_) (bA 35 268435455) rfl rfl (by kernel_rfl) (fun _ _ _ h => h) (Or.inr ⟨by rfl, rfl⟩) ?_ ?_
       rotate_left
       ·simp only [Act.put, List.setIfInBounds_toArray, List.set_cons_zero, List.set_cons_succ]
        rfl
       refine pure_ (i := 28) (N := some 45) (v := undef) (a' := ?_) (bA 35 536870911) rfl rfl (by kernel_rfl) (fun _ _ _ h => h) (Or.inr ⟨by rfl, rfl⟩) ?_ ?_
       rotate_left
       ·simp only [Act.put, List.setIfInBounds_toArray, List.set_cons_zero, List.set_cons_succ]
        rfl
       refine pure_ (i := 29) (N := some 46) (v := undef) (a' := ?_) (bA 35 1073741823) rfl rfl (by kernel_rfl) (fun _ _ _ h => h) (Or.inr ⟨by rfl, rfl⟩) ?_ ?_
       rotate_left
       ·simp only [Act.put, List.setIfInBounds_toArray, List.set_cons_zero, List.set_cons_succ]
        rfl
       refine pure_ (i := 30) (N := some 47) (v := undef) (a' := ?_) (bA 35 2147483647) rfl rfl (by kernel_rfl) (fun _ _ _ h => h) (Or.inr ⟨by rfl, rfl⟩) ?_ ?_
       rotate_left
       ·simp only [Act.put, List.setIfInBounds_toArray, List.set_cons_zero, List.set_cons_succ]
        rfl
       refine pure_ (i := 31) (N := some 48) (v := undef) (a' := ?_) (bA 35 4294967295) rfl rfl (by kernel_rfl) (fun _ _ _ h => h) (Or.inr ⟨by rfl, rfl⟩) ?_ ?_
       rotate_left
       ·simp only [Act.put, List.setIfInBounds_toArray, List.set_cons_zero, List.set_cons_succ]
        rfl
       refine one_ (i := 32) (N := some 49) (bA 35 8589934591) rfl rfl (by kernel_rfl) (by decide) (fun K hK => ?_)
       refine off_ (by rfl) ?_
       refine hK.out _ _ hHeld (fun hHeld => ?_)
       clear hK K
       refine norm_ (a' := ?_) ?_ ?_
       rotate_left
       ·show Act.put _ (some 49) _ = _
        simp only [Act.put, List.setIfInBounds_toArray, List.set_cons_zero, List.set_cons_succ]
        rfl
       refine pure_ (i := 33) (N := some 50) (v := undef) (a' := ?_) (bA 35 17179869183) rfl rfl (by kernel_rfl) (fun _ _ _ h => h) (Or.inr ⟨by rfl, rfl⟩) ?_ ?_
       rotate_left
       ·simp only [Act.put, List.setIfInBounds_toArray, List.set_cons_zero, List.set_cons_succ]
        rfl
       refine pure_ (i := 34) (N := some 51) (v := ?_) (a' := ?_) (bA 35 34359738367) rfl rfl (by kernel_rfl) (fun _ _ _ h => h) (Or.inl ⟨by rfl, ?_⟩) ?_ ?_
       rotate_left
       ·intro w'
        go_simp
        with_reducible rfl
       rotate_left
       ·simp only [Act.put, List.setIfInBounds_toArray, List.set_cons_zero, List.set_cons_succ]
        rfl
       refine done_ (by kernel_rfl) ?_
       have hBx := hB2
       clear hS hH0 hH1 hHeld cMR cJ cT
       go_wp2_with fail
       go_ret
       exact ⟨by rw [hk.out]; rfl, hBL.trans (hBx.mono hBL.size)⟩
  ·have e : i = bs.length := by omega
   subst e
   rw [List.drop_length, List.take_length] at hP1
   have hk := Lib.hid (show P = decide (joinB (contentL bs) = joinB l) by rw [hP1]; rfl)
   clear hP1 hM
   have cC := Content_any A c bs wr hc (hb.below hB)
   go_wp2_with fail
   refine cC.mono ?_
   rintro e w1 ⟨v1, rfl, hR1, hb1⟩
   have hB1 := below_step hB hb1
   have cJ := Join_any A2 c2 l w1 (hr.below hB1).row hr.len hr.size
   obtain ⟨A1, c1, rfl⟩ := Kd.R_slice hR1
   go_wp2_with fail
   refine cJ.mono ?_
   rintro e w2 ⟨v2, rfl, hR2, hb2⟩
   obtain ⟨A5, c5, rfl⟩ := Kd.R_slice hR2
   have hB2 := below_step hB1 hb2
   have hR1' := Kd.R_below hR1 hb2
   have cE := Equal_any A1 c1 _ A5 c5 _ w2 (by have := joinB_len (contentL bs); have := content_len bs hb.lots; omega) (Kd.R_reads' hR1').2.2 (Kd.R_reads' hR1').2.1 (Kd.R_reads' hR2).2.2 (Kd.R_reads' hR2).2.1
   clear hR1 hR1' hR2 cC cJ
   go_wp2_with fail
   refine cE.mono ?_
   rintro e w3 ⟨rfl, hb3⟩
   go_wp2_with fail
   go_ret
   exact ⟨by rw [hk.out]; rfl, below_step hB2 hb3⟩
end Go.Proofs.YtfflbeenkfaemaaGreatDoor.Ext
