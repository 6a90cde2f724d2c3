/- One of the texts of this claim: Packed, Pck, Awk, AwkW, Dec, ExtP, Xx2, Xx1, Xx5. -/
import Derived.Test.YtfflbeenkfaemaaGreatDoorFPackRights6
namespace Go.Proofs.YtfflbeenkfaemaaGreatDoor.Ext
open Go.RowKit Go.Proofs.YtfflbeenkfaemaaGreatDoorW.PrintWords Go.Proofs.YtfflbeenkfaemaaGreatDoorW.PrintLast
theorem infoBox : (Tryz.prog.info? 44).map (fun i => (i.zero, i.size, i.bytes)) = some (some (.agg #[.string ⟨#[]⟩, .int .i64 0, .slice none 0 0]), 3, 48) := by kernel_rfl
def fillBox (gs : List X.S30) (x : ByteArray) (b : X.S44) (m : Int) : X.S44 := if manyB gs b.f1 b.f2 x m = 0 then b else ⟨b.f0, b.f1, b.f2 ++ [⟨x, (manyB gs b.f1 b.f2 x m : Int)⟩]⟩
def fillLeft (gs : List X.S30) (x : ByteArray) (b : X.S44) (m : Int) : Int := m - (manyB gs b.f1 b.f2 x m : Int)
def fillAll (gs : List X.S30) (x : ByteArray) : List X.S44 → Int → List X.S44 × Int
 | [], m => ([], m)
 | b :: r, m => if 0 < m then (fillBox gs x b m :: (fillAll gs x r (fillLeft gs x b m)).1, (fillAll gs x r (fillLeft gs x b m)).2) else (b :: r, m)
def newBox (k : Int) : X.S44 := ⟨⟨#[]⟩, k, []⟩
def newAll (gs : List X.S30) (x : ByteArray) : Nat → List X.S44 → Int → List X.S44 × Int
 | 0, bs, _ => (bs, 0)
 | k + 1, bs, m => if 0 < m then (if (kindB gs x m).2 = true then (if bs.length = 64 then ([], 7) else newAll gs x k (bs ++ [fillBox gs x (newBox (kindB gs x m).1) m]) (fillLeft gs x (newBox (kindB gs x m).1) m)) else ([], 12)) else (bs, 0)
def packOne (gs : List X.S30) (x : X.S55) (bs : List X.S44) : List X.S44 × Int := newAll gs x.f0 (65 - (fillAll gs x.f0 bs x.f1).1.length) (fillAll gs x.f0 bs x.f1).1 (fillAll gs x.f0 bs x.f1).2
def packAll (gs : List X.S30) : List X.S55 → List X.S44 → List X.S44 × Int
 | [], bs => (bs, 0)
 | x :: r, bs => if (packOne gs x bs).2 = 0 then packAll gs r (packOne gs x bs).1 else ([], (packOne gs x bs).2)
def packedB (gs : List X.S30) (l : List X.S55) : List X.S44 × Int := packAll gs (orderB gs l) []
theorem fillAll_done (gs : List X.S30) (x : ByteArray) (r : List X.S44) (m : Int) (h : ¬ 0 < m) : fillAll gs x r m = (r, m) := by
 cases r with
 | nil => rfl
 | cons b r => exact if_neg h
theorem fillAll_len (gs : List X.S30) (x : ByteArray) : ∀ (r : List X.S44) (m : Int), (fillAll gs x r m).1.length = r.length
 | [], m => rfl
 | b :: r, m => by
  unfold fillAll
  split
  ·simp [fillAll_len gs x r]
  ·rfl
def OkB (q : Nat) (b : X.S44) : Prop := b.f2.length ≤ q ∧ ∀ y ∈ b.f2, y.f0.size ≤ 9223372036854775807
theorem OkB.mono {q q' : Nat} {b : X.S44} (h : OkB q b) (hq : q ≤ q') : OkB q' b := ⟨Nat.le_trans h.1 hq, h.2⟩
theorem OkB.fill {q : Nat} {b : X.S44} (h : OkB q b) (gs : List X.S30) {x : ByteArray} (hx : x.size ≤ 9223372036854775807) (m : Int) : OkB (q + 1) (fillBox gs x b m) := by
 unfold fillBox
 split
 ·exact h.mono (by omega)
 ·refine ⟨by simp; exact h.1, fun y hy => ?_⟩
  rcases List.mem_append.1 hy with hy | hy
  ·exact h.2 y hy
  ·rw [List.mem_singleton.1 hy]
   exact hx
/-- What a call of fill leaves of all boxes. -/
theorem fill_boxes {w w' : World} {base g n cap i gx : Nat} {bs : List X.S44} {vs : List Value} {b : X.S44} {v : Value} (gs : List X.S30) (x : ByteArray) (m : Int) (h : BoxesAt w base (.slice (some ⟨g, 0, none⟩) n cap) bs vs) (hb : bs[i]? = some b) (hv : vs[i]? = some v) (hgb : base ≤ g)
  (hp : FillPost w w' g (i * 3) base v b.f2 x (manyB gs b.f1 b.f2 x m)) (o : Array Value) (hgx : w.heap[gx]? = some (.cells o 55 (0, 0))) (haw : ∀ u ∈ vs, u.ownBlock ≠ some gx) :
  ∃ vs', BoxesAt w' base (.slice (some ⟨g, 0, none⟩) n cap) (bs.set i (fillBox gs x b m)) vs' ∧ (∀ u ∈ vs', u.ownBlock ≠ some gx) ∧ w'.heap[gx]? = some (.cells o 55 (0, 0)) ∧ Below base w w' := by
 have hbase : base ≤ w.heap.size := by
  obtain ⟨arr, hg⟩ := own_typed h.row g rfl
  have := blk_lt hg
  omega
 unfold FillPost at hp
 unfold fillBox
 by_cases hk : manyB gs b.f1 b.f2 x m = 0
 ·rw [if_pos hk] at hp ⊢
  have e : bs.set i b = bs := by
   obtain ⟨hi, e⟩ := List.getElem?_eq_some_iff.1 hb
   subst e
   exact List.set_getElem_self hi
  rw [e]
  exact ⟨vs, h.below hp, haw, blk_below hgx hp, hp.mono hbase⟩
 ·rw [if_neg hk] at hp ⊢
  obtain ⟨W1, v1, rfl, h1, hgr, hat⟩ := hp
  have hR := h.rows i b v hb hv
  have hvx : v.ownBlock ≠ some gx := haw v (List.mem_of_getElem? hv)
  obtain ⟨arr, hg⟩ := own_typed h.row g rfl
  have hgg : g ≠ gx := fun e => by
   subst e
   rw [hg] at hgx
   injection hgx with hgx
   injection hgx with _ hgx
   exact absurd hgx (by decide)
  have hgx1 : W1.heap[gx]? = some (.cells o 55 (0, 0)) := blk_grown hgx hgr (fun e => hvx e.symm)
  refine ⟨vs.set i v1, h.fill hb hv h1 hgr hat, fun u hu => ?_, ?_, ?_⟩
  ·rcases List.mem_or_eq_of_mem_set hu with hu | rfl
   ·exact haw u hu
   ·intro e
    rcases hat with hat | ⟨q, hq, hle⟩
    ·exact hvx (hat ▸ e)
    ·rw [hq] at e
     injection e with e
     have := blk_lt hgx
     omega
  ·rw [Below.heap_setCell W1 ⟨g, i * 3 + 2, none⟩ v1 gx (Ne.symm hgg)]
   exact hgx1
  ·have hB : Below base w W1 := (Below.refl base w).grown hgr hbase (fun k hk => (row55_typed hR hk).1)
   exact hB.setCell hgb _
theorem fillAll_step (gs : List X.S30) (x : ByteArray) (b : X.S44) (r : List X.S44) (m : Int) (h : 0 < m) : fillAll gs x (b :: r) m = (fillBox gs x b m :: (fillAll gs x r (fillLeft gs x b m)).1, (fillAll gs x r (fillLeft gs x b m)).2) := if_pos h
/-- Where filling stands: what is done, what is still to come, how many pieces are left. -/
structure Filling (gs : List X.S30) (x : ByteArray) (target : List X.S44 × Int) (dn rest : List X.S44) (m : Int) : Prop where
 eq : target = (dn ++ (fillAll gs x rest m).1, (fillAll gs x rest m).2)
theorem Filling.step {gs : List X.S30} {x : ByteArray} {target : List X.S44 × Int} {dn rest : List X.S44} {b : X.S44} {m : Int} (h : Filling gs x target dn (b :: rest) m) (hm : 0 < m) : Filling gs x target (dn ++ [fillBox gs x b m]) rest (fillLeft gs x b m) :=
 ⟨by rw [h.eq, fillAll_step gs x b rest m hm]; simp⟩
theorem Filling.skip {gs : List X.S30} {x : ByteArray} {target : List X.S44 × Int} {dn rest : List X.S44} {b : X.S44} {m : Int} (h : Filling gs x target dn (b :: rest) m) (hm : ¬ 0 < m) : Filling gs x target (dn ++ [b]) rest m :=
 ⟨by rw [h.eq, fillAll_done gs x (b :: rest) m hm, fillAll_done gs x rest m hm]; simp⟩
theorem set_mid {α : Type} (dn rest : List α) (b c : α) : (dn ++ b :: rest).set dn.length c = (dn ++ [c]) ++ rest := by
 rw [List.set_append_right _ _ (Nat.le_refl _)]
 simp
theorem mid_get {α : Type} (dn rest : List α) (b : α) : (dn ++ b :: rest)[dn.length]? = some b := by
 rw [List.getElem?_append_right (Nat.le_refl _)]
 simp
theorem fillLeft_le (gs : List X.S30) (x : ByteArray) (b : X.S44) (m : Int) (hm : 0 < m) : fillLeft gs x b m ≤ m ∧ 0 ≤ fillLeft gs x b m := by
 have := manyB_le gs b.f1 b.f2 x m hm
 unfold fillLeft
 omega
def lenV : Value → Nat
 | .slice _ n _ => n
 | _ => 0
def PackedPost (w' : World) (base : Nat) (v : Value) (r : List X.S44 × Int) : Prop := if r.2 = 0 then ∃ vs, BoxesAt w' base v r.1 vs else v = .slice none 0 0
theorem newAll_step (gs : List X.S30) (x : ByteArray) (k : Nat) (bs : List X.S44) (m : Int) (hm : 0 < m) (hk : (kindB gs x m).2 = true) (hl : ¬ bs.length = 64) : newAll gs x (k + 1) bs m = newAll gs x k (bs ++ [fillBox gs x (newBox (kindB gs x m).1) m]) (fillLeft gs x (newBox (kindB gs x m).1) m) := by
 show (if 0 < m then _ else _) = _
 rw [if_pos hm, if_pos hk, if_neg hl]
theorem newAll_full (gs : List X.S30) (x : ByteArray) (k : Nat) (bs : List X.S44) (m : Int) (hm : 0 < m) (hk : (kindB gs x m).2 = true) (hl : bs.length = 64) : newAll gs x (k + 1) bs m = ([], 7) := by
 show (if 0 < m then _ else _) = _
 rw [if_pos hm, if_pos hk, if_pos hl]
theorem newAll_not (gs : List X.S30) (x : ByteArray) (k : Nat) (bs : List X.S44) (m : Int) (hm : 0 < m) (hk : (kindB gs x m).2 = false) : newAll gs x (k + 1) bs m = ([], 12) := by
 show (if 0 < m then _ else _) = _
 rw [if_pos hm, if_neg (by rw [hk]; simp)]
theorem newAll_end (gs : List X.S30) (x : ByteArray) (k : Nat) (bs : List X.S44) (m : Int) (hm : ¬ 0 < m) : newAll gs x k bs m = (bs, 0) := by
 cases k with
 | zero => rfl
 | succ k =>
  show (if 0 < m then _ else _) = _
  rw [if_neg hm]
theorem packAll_cons (gs : List X.S30) (x : X.S55) (r : List X.S55) (bs : List X.S44) : packAll gs (x :: r) bs = if (packOne gs x bs).2 = 0 then packAll gs r (packOne gs x bs).1 else ([], (packOne gs x bs).2) := rfl
theorem drop_at (l : List X.S55) (p : Nat) (h : p < l.length) : l.drop p = X.rd_T55 l (p : Int) :: l.drop (p + 1) := by
 rw [List.drop_eq_getElem_cons h, rd_eq l p h]
set_option maxHeartbeats 16000000 in
set_option maxRecDepth 100000 in
theorem packed_any (t : Nat) (gs : List X.S30) (A : Option Addr) (c : Nat) (l : List X.S55) (w : World) (ht : TC w t gs) (hr : LC w A l) (hl : l.length < 20) (hord : ∀ z ∈ orderB gs l, z.f0.size ≤ 9223372036854775807 ∧ z.f1 ≤ 9223372036854775807) (hol : (orderB gs l).length < 20) :
  Calls Tryz.prog 44 #[.pointer (some ⟨t, 0, none⟩), .slice A l.length c] w fun e w' => ∃ v, e = .returned (.tuple #[v, .int .i64 (packedB gs l).2]) ∧ PackedPost w' w.heap.size v (packedB gs l) ∧ Below w.heap.size w w' := by
 have cO := order_any t gs A c l w ht hr hl
 have hP := Lib.hid (show packedB gs l = packAll gs (orderB gs l) [] from rfl)
 generalize orderB gs l = ord at cO hP hord hol
 obtain ⟨R0, hR0⟩ : ∃ R0, R0 = packedB gs l := ⟨_, rfl⟩
 rw [← hR0] at hP ⊢
 clear hR0
 go_enter Tryz.func44, Tryz.ntmps44
 go_wp2_with fail
 refine cO.mono ?_
 rintro e w1 ⟨v14, rfl, hR14, hB1⟩
 clear cO
 obtain ⟨A14, c14, rfl⟩ := Kd.R_slice hR14
 have hC14 := (Kd.R_reads' hR14).2.2
 have ht1 := ht.below hB1
 clear ht hr hl hR14
 obtain ⟨B, hBe⟩ : ∃ B, B = w1.heap.size := ⟨_, rfl⟩
 have hwB : w.heap.size ≤ B := by rw [hBe]; exact hB1.size
 have tcW : ∀ W, Below B w1 W → TC W t gs := fun W hW => ht1.below (by rw [← hBe]; exact hW)
 have ordW : ∀ W, Below B w1 W → Kd.C X.k55 W A14 ord.length ord := fun W hW => Kd.C_below hC14 (by rw [← hBe]; exact hW)
 have belW : ∀ W, Below B w1 W → Below w.heap.size w W := fun W hW => below_step hB1 (by rw [← hBe]; exact hW)
 have hB11 : Below B w1 w1 := Below.refl _ _
 have hBs : B ≤ w1.heap.size := by omega
 clear ht1 hC14 hBe
 go_wp2_with fail
 go_loopw [6, 16] (fun v6 v16 wr => ∃ p : Nat, ∃ bs : List X.S44, ∃ vs : List Value, p ≤ ord.length ∧ v16 = .int .i64 (p : Int) ∧ Aside (R0 = packAll gs (ord.drop p) bs ∧ bs.length ≤ 64 ∧ BoxesAt wr B v6 bs vs ∧ (∀ b ∈ bs, OkB p b)) ∧ Below B w1 wr) (fun v6 v16 _ => ord.length - (intOf v16).toNat)
 case atStart => exact ⟨0, [], [], by omega, rfl, ⟨hP.out, by simp, BoxesAt.nil _ _, (fun b hb => by cases hb)⟩, hB11⟩
 case round =>
  obtain ⟨p, bs, vs, hp, rfl, ⟨hRp, hbl, hbx, hok⟩, hBr⟩ := hrel
  obtain ⟨A6, c6, rfl, hc6⟩ := hbx.slice
  by_cases hlt : p < ord.length
  ·have hx := hord _ (List.mem_of_getElem? (rd_at ord p hlt))
   rw [drop_at ord p hlt, packAll_cons] at hRp
   obtain ⟨ad, eA, e0, e1⟩ := X.at_T55 (ordW wr hBr) (p : Int) (by omega) (by omega)
   subst eA
   generalize X.rd_T55 ord (p : Int) = z at hx hRp e0 e1
   obtain ⟨x, m0⟩ := z
   simp only [Int.toNat_natCast] at hx e0 e1
   obtain ⟨hx, hm0⟩ := hx
   obtain ⟨F, hF⟩ : ∃ F, F = fillAll gs x bs m0 := ⟨_, rfl⟩
   have hFl : F.1.length = bs.length := by rw [hF]; exact fillAll_len gs x bs m0
   have hone : packOne gs ⟨x, m0⟩ bs = newAll gs x (65 - bs.length) F.1 F.2 := by
    show newAll gs x (65 - (fillAll gs x bs m0).1.length) (fillAll gs x bs m0).1 (fillAll gs x bs m0).2 = _
    rw [← hF, hFl]
   rw [hone] at hRp
   replace hRp := Lib.hid hRp
   have hfil : Filling gs x F [] bs m0 := ⟨hF⟩
   clear hF hone
   have hBx : Below B w1 (wr.alloc (.cells #[.string x, .int .i64 m0] 55)) := hBr.alloc (Nat.le_trans hBs hBr.size) _
   have hbx1 := hbx.below (below_alloc (Below.refl wr.heap.size wr) (.cells #[.string x, .int .i64 m0] 55))
   have hgx1 := blk_new wr (.cells #[.string x, .int .i64 m0] 55)
   have haw1 : ∀ v ∈ vs, v.ownBlock ≠ some wr.heap.size := fun v hv e => by
    obtain ⟨i, hi, rfl⟩ := List.getElem_of_mem hv
    have := (row55_typed (hbx.rows i _ _ (List.getElem?_eq_getElem (by rw [← hbx.len]; exact hi)) (List.getElem?_eq_getElem hi)) e).2.1
    omega
   have hgxB : B ≤ wr.heap.size := Nat.le_trans hBs hBr.size
   clear hbx
   go_wp2_with fail
   clear e0 e1
   generalize wr.heap.size = gx at hgx1 haw1 hgxB ⊢
   generalize wr.alloc (.cells #[.string x, .int .i64 m0] 55) = wo at hBx hbx1 hgx1 ⊢
   clear hBr
   generalize hN : bs.length = N at hc6 hbl hFl hbx1 hRp ⊢
   go_loopw [22] (fun v22 w2 => ∃ dn rest : List X.S44, ∃ m : Int, ∃ us : List Value, v22 = .int .i64 (dn.length : Int) ∧ Aside (Filling gs x F dn rest m ∧ dn.length + rest.length = N ∧ m ≤ 9223372036854775807 ∧ BoxesAt w2 B (.slice A6 N c6) (dn ++ rest) us ∧ (∀ b ∈ dn, OkB (p + 1) b) ∧ (∀ b ∈ rest, OkB p b) ∧ w2.heap[gx]? = some (.cells #[.string x, .int .i64 m] 55 (0, 0)) ∧ (∀ v ∈ us, v.ownBlock ≠ some gx) ∧ Below B w1 w2)) (fun v22 _ => N - (intOf v22).toNat)
   case atStart => exact ⟨[], bs, m0, vs, rfl, ⟨hfil, by simpa using hN, hm0, hbx1, (fun b hb => by cases hb), hok, hgx1, haw1, hBx⟩⟩
   case round =>
    obtain ⟨dn, rest, m, us, rfl, hf2, hN2, hm2, hb2, hokd, hokr, hgx2, haw2, hB2⟩ := hrel
    clear hfil hbx1 hok hgx1 haw1 hBx
    have x1 := (blk_cell hgx2 1).trans rfl
    have x0 := (blk_cell hgx2 0).trans rfl
    cases rest with
    | cons b rest =>
     have hlt2 : dn.length < N := by simp at hN2; omega
     replace hN2 : dn.length + 1 + rest.length = N := by simp at hN2; omega
     by_cases hm : 0 < m
     ·obtain ⟨g, cap, arr, ev, hgB, hgarr, hcap⟩ := hb2.form (by simp; omega)
      injection ev with ev1 ev2 ev3
      subst ev1
      subst ev3
      have hbi := mid_get dn rest b
      obtain ⟨v, hvi⟩ : ∃ v, us[dn.length]? = some v := ⟨_, List.getElem?_eq_getElem (by rw [hb2.len]; simp)⟩
      obtain ⟨q0, q1, q2⟩ := hb2.cells hbi hvi
      have hbo := hokr b List.mem_cons_self
      have hRv := hb2.rows _ b v hbi hvi
      have cF := fun W (hW : Below wr.heap.size wr W) => fill_any t gs b.f0 b.f1 g (dn.length * 3) B v b.f2 x m hm hm2 W (tcW W (hB2.trans (hW.mono (Nat.le_trans hBs hB2.size)))) arr (blk_below hgarr hW) (keepw hW q0) (keepw hW q1) (keepw hW q2) (Kd.R_below hRv hW) (Nat.le_trans (Nat.le_trans hBs hB2.size) hW.size) (by have := hbo.1; omega) hbo.2 hx
      have cB := fun W W' (hW : Below wr.heap.size wr W) hp => fill_boxes (w' := W') gs x m (hb2.below hW) hbi hvi hgB hp _ (blk_below hgx2 hW) haw2
      have hfl := fillLeft_le gs x b m hm
      have hf3 := hf2.step hm
      have hFX := hbo.fill gs hx m
      rw [set_mid] at cB
      have hfe : m - (manyB gs b.f1 b.f2 x m : Int) = fillLeft gs x b m := rfl
      rw [hfe] at cF
      generalize fillLeft gs x b m = m' at cF hfl hf3
      generalize fillBox gs x b m = b' at cB hf3 hFX
      generalize manyB gs b.f1 b.f2 x m = kk at cF cB
      clear hfe q0 q1 q2 hRv hf2 hbi hvi hgarr hb2
      obtain ⟨hfl1, hfl2⟩ := hfl
      have hdl : (dn ++ [b']).length = dn.length + 1 := by simp
      replace hdl := Lib.hid hdl
      replace hN2 := Lib.hid hN2
      go_wp2_with fail
      refine start_ (n := 8) (S := fun w' => w'.cell? ⟨gx, 0, none⟩ = some (.string x) ∧ w'.cell? ⟨gx, 1, none⟩ = some (.int .i64 m)) (ds := [5, 7]) (bA 8 0) (by kernel_rfl) rfl rfl ?_ (fun hHeld => ?_)
      ·exact ⟨x0, x1⟩
      refine pure_ (i := 0) (N := some 28) (v := ?_) (a' := ?_) (bA 8 1) rfl rfl (by kernel_rfl) (fun _ _ _ h => h) (Or.inl ⟨by rfl, ?_⟩) ?_ ?_
      rotate_left
      ·intro w'
       go_simp
       with_reducible rfl
      rotate_left
      ·simp only [Act.put, List.setIfInBounds_toArray, List.set_cons_zero, List.set_cons_succ]
       rfl
      refine pure_ (i := 1) (N := some 29) (v := ?_) (a' := ?_) (bA 8 3) rfl rfl (by kernel_rfl) (fun _ _ _ h => h) (Or.inl ⟨by rfl, ?_⟩) ?_ ?_
      rotate_left
      ·intro w'
       go_simp
       with_reducible rfl
      rotate_left
      ·simp only [Act.put, List.setIfInBounds_toArray, List.set_cons_zero, List.set_cons_succ]
       rfl
      refine pure_ (i := 2) (N := some 30) (v := ?_) (a' := ?_) (bA 8 7) rfl rfl (by kernel_rfl) (fun _ _ _ h => h) (Or.inl ⟨by rfl, ?_⟩) ?_ ?_
      rotate_left
      ·intro w'
       go_simp
       with_reducible rfl
      rotate_left
      ·simp only [Act.put, List.setIfInBounds_toArray, List.set_cons_zero, List.set_cons_succ]
       rfl
      refine pure_ (i := 3) (N := some 31) (v := ?_) (a' := ?_) (bA 8 15) rfl rfl (by kernel_rfl) (fun _ _ _ h => h) (Or.inl ⟨by rfl, ?_⟩) ?_ ?_
      rotate_left
      ·intro w'
       go_simp
       with_reducible rfl
      rotate_left
      ·simp only [Act.put, List.setIfInBounds_toArray, List.set_cons_zero, List.set_cons_succ]
       rfl
      refine take_ (i := 4) (N := some 32) (v := ?_) (a' := ?_) (bA 8 31) rfl rfl (by kernel_rfl) (fun _ _ _ h => h) (Or.inl ⟨by rfl, ?_⟩) hHeld ?_ ?_
      rotate_left
      ·rintro w' ⟨s0, s1⟩
       go_simp
       with_reducible rfl
      rotate_left
      ·simp only [Act.put, List.setIfInBounds_toArray, List.set_cons_zero, List.set_cons_succ]
       rfl
      refine last_ (i := 5) (N := some 33) (bA 8 63) rfl rfl (by kernel_rfl) (by decide) (fun K hK => ?_)
      refine goes_ Tryz.func84 (by kernel_rfl) rfl #[.pointer (some ⟨t, 0, none⟩), .pointer (some ⟨g, dn.length * 3, none⟩), .agg #[.string x, .int .i64 m]] (by rfl) rfl rfl (by (try simp only [List.map_toArray, List.map_cons, List.map_nil]); first | done | rfl) ?_
      refine (cF _ (below_drew (Below.refl _ _))).mono ?_
      rintro e W3 ⟨rfl, hpost⟩
      refine ⟨_, rfl, ?_⟩
      refine hK.out _ _ ?_
      clear hK K
      refine norm_ (a' := ?_) ?_ ?_
      rotate_left
      ·show Act.put _ (some 33) _ = _
       simp only [Act.put, List.setIfInBounds_toArray, List.set_cons_zero, List.set_cons_succ]
       rfl
      obtain ⟨us3, hb3, haw3, hgx3, hB23⟩ := cB _ _ (below_drew (Below.refl _ _)) hpost
      have hB3 : Below B w1 W3 := (below_drew hB2).trans hB23
      clear hpost cB cF haw2 hgx2 hB2 hB23 x0 x1
      refine pure_ (i := 6) (N := some 34) (v := ?_) (a' := ?_) (bA 8 127) rfl rfl (by kernel_rfl) (fun _ _ _ h => h) (Or.inl ⟨by rfl, ?_⟩) ?_ ?_
      rotate_left
      ·intro w'
       go_simp
       with_reducible rfl
      rotate_left
      ·simp only [Act.put, List.setIfInBounds_toArray, List.set_cons_zero, List.set_cons_succ]
       rfl
      have y1 := (blk_cell hgx3 1).trans rfl
      have f1 := blk_frozen hgx3 1
      refine last_ (i := 7) (N := none) (bA 8 255) rfl rfl (by kernel_rfl) (by decide) (fun K hK => ?_)
      refine skip_ rfl rfl (w1 := W3.setCell ⟨gx, 1, none⟩ (.int .i64 m')) (by go_simp; first | done | rfl) ?_
      refine hK.out _ _ ?_
      clear hK K
      refine done_ (by kernel_rfl) ?_
      have hgx4 : (W3.setCell ⟨gx, 1, none⟩ (.int .i64 m')).heap[gx]? = some (.cells #[.string x, .int .i64 m'] 55 (0, 0)) := blk_set hgx3 1 _
      have hvg : (Value.slice (some ⟨g, 0, none⟩) N c6).ownBlock ≠ some gx := fun e => by
       obtain ⟨cells, hc⟩ := own_typed hb3.row g rfl
       obtain rfl : g = gx := by simpa [Value.ownBlock] using e
       rw [hc] at hgx3
       injection hgx3 with hgx3
       injection hgx3 with _ hgx3
       exact absurd hgx3 (by decide)
      have hb4 := hb3.far (w1 := W3.setCell ⟨gx, 1, none⟩ (.int .i64 m')) gx hvg haw3 (fun k _ hk => Below.heap_setCell W3 ⟨gx, 1, none⟩ _ k hk)
      have hB4 : Below B w1 (W3.setCell ⟨gx, 1, none⟩ (.int .i64 m')) := hB3.setCell hgxB _
      clear hHeld hb3 hgx3 hB3 y1 f1 hvg
      generalize W3.setCell ⟨gx, 1, none⟩ (.int .i64 m') = W4 at hgx4 hb4 hB4 ⊢
      go_wp2_with fail
      go_roundw
      case measure => simp [intOf]; omega
      case rel => exact ⟨dn ++ [b'], rest, m', us3, by rw [hdl.out]; go_num, ⟨hf3, by rw [hdl.out]; exact hN2.out, by omega, hb4, (fun y hy => by rcases List.mem_append.1 hy with h | h; exact hokd y h; rw [List.mem_singleton.1 h]; exact hFX), fun y hy => hokr y (List.mem_cons_of_mem _ hy), hgx4, haw3, hB4⟩⟩
     ·have hf3 := hf2.skip hm
      have hdl : (dn ++ [b]).length = dn.length + 1 := by simp
      have hb3 : BoxesAt wr B (.slice A6 N c6) ((dn ++ [b]) ++ rest) us := by simpa using hb2
      replace hdl := Lib.hid hdl
      replace hN2 := Lib.hid hN2
      clear hf2 hb2
      go_wp2_with fail
      go_roundw
      case measure => simp [intOf]; omega
      case rel => exact ⟨dn ++ [b], rest, m, us, by rw [hdl.out]; go_num, ⟨hf3, by rw [hdl.out]; exact hN2.out, hm2, hb3, (fun y hy => by rcases List.mem_append.1 hy with h | h; exact hokd y h; rw [List.mem_singleton.1 h]; exact (hokr b List.mem_cons_self).mono (by omega)), fun y hy => hokr y (List.mem_cons_of_mem _ hy), hgx2, haw2, hB2⟩⟩
    | nil =>
     have hdN : dn.length = N := by simpa using hN2
     have hFe := hf2.eq
     have hm9 : fillAll gs x [] m = ([], m) := rfl
     rw [hm9] at hFe
     simp only [List.append_nil] at hFe hb2
     clear hm9 hf2 hN2 hokr
     subst hFe
     simp only at hRp hFl
     generalize hQ : newAll gs x (65 - N) dn m = Q at hRp
     replace hQ : Aside (newAll gs x (65 - dn.length) dn m = Q) := by rw [hdN]; exact hQ
     rw [hdN]
     clear x0 x1
     go_wp2_with fail
     generalize hwo3 : wr = wo3 at *
     clear hwo3
     have hd64 : dn.length ≤ 64 := by omega
     clear hFl hc6 hdN
     go_loopw [6] (fun v6 w3 => ∃ bs3 : List X.S44, ∃ us3 : List Value, ∃ m3 : Int, Aside (newAll gs x (65 - bs3.length) bs3 m3 = Q ∧ bs3.length ≤ 64 ∧ m3 ≤ 9223372036854775807 ∧ BoxesAt w3 B v6 bs3 us3 ∧ (∀ b ∈ bs3, OkB (p + 1) b) ∧ w3.heap[gx]? = some (.cells #[.string x, .int .i64 m3] 55 (0, 0)) ∧ (∀ v ∈ us3, v.ownBlock ≠ some gx) ∧ Below B w1 w3)) (fun v6 _ => 65 - lenV v6)
     case atStart => exact ⟨dn, us, m, ⟨hQ.out, hd64, hm2, hb2, hokd, hgx2, haw2, hB2⟩⟩
     case round =>
      obtain ⟨bs3, us3, m3, hQ3, hbl3, hm3, hb3, hok3, hgx3, haw3, hB3⟩ := hrel
      clear hQ hb2 hokd hgx2 haw2 hB2
      obtain ⟨A7, c7, rfl, hc7⟩ := hb3.slice
      have x0 := (blk_cell hgx3 0).trans rfl
      have x1 := (blk_cell hgx3 1).trans rfl
      by_cases hm : 0 < m3
      ·have e65 : 65 - bs3.length = (64 - bs3.length) + 1 := by omega
       rw [e65] at hQ3
       clear e65
       have g1 := fun h1 h2 => (newAll_step gs x (64 - bs3.length) bs3 m3 hm h1 h2).symm.trans hQ3
       have g2 := fun h1 h2 => hQ3.symm.trans (newAll_full gs x (64 - bs3.length) bs3 m3 hm h1 h2)
       have g3 := fun h1 => hQ3.symm.trans (newAll_not gs x (64 - bs3.length) bs3 m3 hm h1)
       have cK := kind_any t gs x m3 wr (tcW _ hB3) hx
       clear hQ3
       generalize (kindB gs x m3).1 = kk at g1 cK
       generalize (kindB gs x m3).2 = kb at g1 g2 g3 cK
       cases kb with
       | false =>
        have hRe : Hid (R0 = ([], 12)) := Lib.hid (by rw [hRp.out, g3 rfl]; rfl)
        clear g1 g2 g3
        go_wp2_with fail
        refine cK.mono ?_
        rintro e w4 ⟨rfl, hb4⟩
        go_wp2_with fail
        go_ret2
        exact ⟨.slice none 0 0, by rw [hRe.out]; rfl, by unfold PackedPost; rw [hRe.out]; rfl, belW _ (hB3.trans (hb4.mono (Nat.le_trans hBs hB3.size)))⟩
       | true =>
        replace g1 := g1 rfl
        replace g2 := g2 rfl
        clear g3
        by_cases h64 : bs3.length = 64
        ·have hRe : Hid (R0 = ([], 7)) := Lib.hid (by rw [hRp.out, g2 h64]; rfl)
         have hd : ((bs3.length : Int) == 64) = true := by rw [h64]; rfl
         clear g1 g2 h64
         go_wp2_with fail
         refine cK.mono ?_
         rintro e w4 ⟨rfl, hb4⟩
         go_wp2_with fail
         go_ret2
         exact ⟨.slice none 0 0, by rw [hRe.out]; rfl, by unfold PackedPost; rw [hRe.out]; rfl, belW _ (hB3.trans (hb4.mono (Nat.le_trans hBs hB3.size)))⟩
        ·have hlt4 : bs3.length < 64 := by omega
         have hd : ((bs3.length : Int) == 64) = false := by simp; omega
         replace g1 := g1 h64
         clear g2 h64
         go_wp2_with fail
         refine cK.mono ?_
         rintro e w4 ⟨rfl, hb4⟩
         have hB4 := hB3.trans (hb4.mono (Nat.le_trans hBs hB3.size))
         have hx4 := hb3.below hb4
         have hgx4 := blk_below hgx3 hb4
         have hB4s := Nat.le_trans hBs hB4.size
         clear hb3 hgx3 x0 x1 cK hB3
         go_wp2_with ((with_reducible refine gate_builtin (b := .append) (xs := #[.tmp 50, .tmp 53]) rfl ?_); at_builtin; refine print_append_cells (w0 := w1) B rfl (.tmp 50) (.tmp 53) 37 44 (.agg #[.string ⟨#[]⟩, .int .i64 0, .slice none 0 0]) 3 48 rfl Tryz.underlying37 infoBox rfl (by omega) (by omega) (.slice A7 bs3.length c7) bs3.length (boxCells bs3 us3) [.string ⟨#[]⟩, .int .i64 kk, .slice none 0 0] rfl rfl rfl (by intro u hu; simp at hu; rcases hu with rfl | rfl | rfl <;> rfl) hx4.row hB4 hB4s (by omega) ?_; intro v6' w5 hrow5 hB5 hg5 hat5)
         have hb5 := hx4.push kk hrow5 hg5
         have hgx5 := blk_grown hgx4 hg5 (fun e => by
          obtain ⟨cells, hc⟩ := own_typed hx4.row gx e.symm
          rw [hc] at hgx4
          injection hgx4 with hgx4
          injection hgx4 with _ hgx4
          exact absurd hgx4 (by decide))
         have haw5 : ∀ v ∈ us3 ++ [Value.slice none 0 0], v.ownBlock ≠ some gx := fun v hv => by
          rcases List.mem_append.1 hv with hv | hv
          ·exact haw3 v hv
          ·rw [List.mem_singleton.1 hv]
           simp [Value.ownBlock]
         have hbn : (⟨⟨#[]⟩, kk, []⟩ : X.S44) = newBox kk := rfl
         rw [hbn] at hb5
         clear hrow5 hg5 hat5 hx4 hgx4 haw3 hB4s hB4 hb4
         obtain ⟨g, cap, arr, rfl, hgB, hgarr, hcap⟩ := hb5.form (by simp)
         have hbi := mid_get bs3 [] (newBox kk)
         have hul : us3.length = bs3.length := by have := hb5.len; simpa using this
         have hvi : (us3 ++ [Value.slice none 0 0])[bs3.length]? = some (.slice none 0 0) := by rw [← hul]; exact mid_get us3 [] _
         obtain ⟨q0, q1, q2⟩ := hb5.cells hbi hvi
         have hRv := hb5.rows _ _ _ hbi hvi
         have hB5s := Nat.le_trans hBs hB5.size
         have cF := fun W (hW : Below w5.heap.size w5 W) => fill_any t gs ⟨#[]⟩ kk g (bs3.length * 3) B (.slice none 0 0) [] x m3 hm hm3 W (tcW W (hB5.trans (hW.mono hB5s))) arr (blk_below hgarr hW) (keepw hW q0) (keepw hW q1) (keepw hW q2) (Kd.R_below hRv hW) (Nat.le_trans hB5s hW.size) (by simp) (fun _ h => by cases h) hx
         have cB := fun W W' (hW : Below w5.heap.size w5 W) hp => fill_boxes (w' := W') gs x m3 (hb5.below hW) hbi hvi hgB hp _ (blk_below hgx5 hW) haw5
         have hfl := fillLeft_le gs x (newBox kk) m3 hm
         have hFX := (show OkB p (newBox kk) from ⟨Nat.zero_le _, fun _ h => by cases h⟩).fill gs hx m3
         rw [set_mid] at cB
         simp only [List.append_nil] at cB
         have hfe : m3 - (manyB gs kk [] x m3 : Int) = fillLeft gs x (newBox kk) m3 := rfl
         have hfm : manyB gs (newBox kk).f1 (newBox kk).f2 x m3 = manyB gs kk [] x m3 := rfl
         rw [hfe] at cF
         rw [hfm] at cB
         generalize fillLeft gs x (newBox kk) m3 = m' at cF hfl g1
         generalize fillBox gs x (newBox kk) m3 = b' at cB g1 hFX
         generalize manyB gs kk [] x m3 = kq at cF cB
         have x1 := (blk_cell hgx5 1).trans rfl
         have x0 := (blk_cell hgx5 0).trans rfl
         obtain ⟨L, hL⟩ : ∃ L, L = (bs3 ++ [newBox kk]).length := ⟨_, rfl⟩
         have hLn : L = bs3.length + 1 := by rw [hL]; simp
         rw [← hL] at hcap cB ⊢
         have hsub : IntKind.i64.wrap ((L : Int) - 1) = (bs3.length : Int) := by rw [IntWalk.i64_in _ (by omega)]; omega
         have hi1 : (0 : Int) ≤ (bs3.length : Int) := by omega
         have hi2 : (bs3.length : Int) < (L : Int) := by omega
         clear hfe hfm q0 q1 q2 hRv hbi hvi hgarr hb5 hul hL hd
         obtain ⟨hfl1, hfl2⟩ := hfl
         replace hLn := Lib.hid hLn
         go_wp2_with fail
         refine start_ (n := 10) (S := fun w' => w'.cell? ⟨gx, 0, none⟩ = some (.string x) ∧ w'.cell? ⟨gx, 1, none⟩ = some (.int .i64 m3)) (ds := [7, 9]) (bA 10 0) (by kernel_rfl) rfl rfl ?_ (fun hHeld => ?_)
         ·exact ⟨x0, x1⟩
         refine pure_ (i := 0) (N := some 55) (v := ?_) (a' := ?_) (bA 10 1) rfl rfl (by kernel_rfl) (fun _ _ _ h => h) (Or.inl ⟨by rfl, ?_⟩) ?_ ?_
         rotate_left
         ·intro w'
          go_simp
          with_reducible rfl
         rotate_left
         ·simp only [Act.put, List.setIfInBounds_toArray, List.set_cons_zero, List.set_cons_succ]
          rfl
         refine pure_ (i := 1) (N := some 56) (v := ?_) (a' := ?_) (bA 10 3) rfl rfl (by kernel_rfl) (fun _ _ _ h => h) (Or.inl ⟨by rfl, ?_⟩) ?_ ?_
         rotate_left
         ·intro w'
          go_simp
          with_reducible rfl
         rotate_left
         ·simp only [Act.put, List.setIfInBounds_toArray, List.set_cons_zero, List.set_cons_succ]
          rfl
         refine pure_ (i := 2) (N := some 57) (v := ?_) (a' := ?_) (bA 10 7) rfl rfl (by kernel_rfl) (fun _ _ _ h => h) (Or.inl ⟨by rfl, ?_⟩) ?_ ?_
         rotate_left
         ·intro w'
          go_simp
          with_reducible rfl
         rotate_left
         ·simp only [Act.put, List.setIfInBounds_toArray, List.set_cons_zero, List.set_cons_succ]
          rfl
         refine pure_ (i := 3) (N := some 58) (v := ?_) (a' := ?_) (bA 10 15) rfl rfl (by kernel_rfl) (fun _ _ _ h => h) (Or.inl ⟨by rfl, ?_⟩) ?_ ?_
         rotate_left
         ·intro w'
          go_simp
          with_reducible rfl
         rotate_left
         ·simp only [Act.put, List.setIfInBounds_toArray, List.set_cons_zero, List.set_cons_succ]
          rfl
         refine pure_ (i := 4) (N := some 59) (v := ?_) (a' := ?_) (bA 10 31) rfl rfl (by kernel_rfl) (fun _ _ _ h => h) (Or.inl ⟨by rfl, ?_⟩) ?_ ?_
         rotate_left
         ·intro w'
          go_simp
          with_reducible rfl
         rotate_left
         ·simp only [Act.put, List.setIfInBounds_toArray, List.set_cons_zero, List.set_cons_succ]
          rfl
         refine pure_ (i := 5) (N := some 60) (v := ?_) (a' := ?_) (bA 10 63) rfl rfl (by kernel_rfl) (fun _ _ _ h => h) (Or.inl ⟨by rfl, ?_⟩) ?_ ?_
         rotate_left
         ·intro w'
          go_simp
          with_reducible rfl
         rotate_left
         ·simp only [Act.put, List.setIfInBounds_toArray, List.set_cons_zero, List.set_cons_succ]
          rfl
         refine take_ (i := 6) (N := some 61) (v := ?_) (a' := ?_) (bA 10 127) rfl rfl (by kernel_rfl) (fun _ _ _ h => h) (Or.inl ⟨by rfl, ?_⟩) hHeld ?_ ?_
         rotate_left
         ·rintro w' ⟨s0, s1⟩
          go_simp
          with_reducible rfl
         rotate_left
         ·simp only [Act.put, List.setIfInBounds_toArray, List.set_cons_zero, List.set_cons_succ]
          rfl
         refine last_ (i := 7) (N := some 62) (bA 10 255) rfl rfl (by kernel_rfl) (by decide) (fun K hK => ?_)
         refine goes_ Tryz.func84 (by kernel_rfl) rfl #[.pointer (some ⟨t, 0, none⟩), .pointer (some ⟨g, bs3.length * 3, none⟩), .agg #[.string x, .int .i64 m3]] (by rfl) rfl rfl (by (try simp only [List.map_toArray, List.map_cons, List.map_nil]); first | done | rfl) ?_
         refine (cF _ (below_drew (Below.refl _ _))).mono ?_
         rintro e W3 ⟨rfl, hpost⟩
         refine ⟨_, rfl, ?_⟩
         refine hK.out _ _ ?_
         clear hK K
         refine norm_ (a' := ?_) ?_ ?_
         rotate_left
         ·show Act.put _ (some 62) _ = _
          simp only [Act.put, List.setIfInBounds_toArray, List.set_cons_zero, List.set_cons_succ]
          rfl
         obtain ⟨us4, hb6, haw6, hgx6, hB56⟩ := cB _ _ (below_drew (Below.refl _ _)) hpost
         have hB6 : Below B w1 W3 := (below_drew hB5).trans hB56
         clear hpost cB cF haw5 hgx5 hB5 hB56 x0 x1
         refine pure_ (i := 8) (N := some 63) (v := ?_) (a' := ?_) (bA 10 511) rfl rfl (by kernel_rfl) (fun _ _ _ h => h) (Or.inl ⟨by rfl, ?_⟩) ?_ ?_
         rotate_left
         ·intro w'
          go_simp
          with_reducible rfl
         rotate_left
         ·simp only [Act.put, List.setIfInBounds_toArray, List.set_cons_zero, List.set_cons_succ]
          rfl
         have y1 := (blk_cell hgx6 1).trans rfl
         have f1 := blk_frozen hgx6 1
         refine last_ (i := 9) (N := none) (bA 10 1023) rfl rfl (by kernel_rfl) (by decide) (fun K hK => ?_)
         refine skip_ rfl rfl (w1 := W3.setCell ⟨gx, 1, none⟩ (.int .i64 m')) (by go_simp; first | done | rfl) ?_
         refine hK.out _ _ ?_
         clear hK K
         refine done_ (by kernel_rfl) ?_
         have hgx7 : (W3.setCell ⟨gx, 1, none⟩ (.int .i64 m')).heap[gx]? = some (.cells #[.string x, .int .i64 m'] 55 (0, 0)) := blk_set hgx6 1 _
         have hvg : (Value.slice (some ⟨g, 0, none⟩) L cap).ownBlock ≠ some gx := fun e => by
          obtain ⟨cells, hc⟩ := own_typed hb6.row g rfl
          obtain rfl : g = gx := by simpa [Value.ownBlock] using e
          rw [hc] at hgx6
          injection hgx6 with hgx6
          injection hgx6 with _ hgx6
          exact absurd hgx6 (by decide)
         have hb7 := hb6.far (w1 := W3.setCell ⟨gx, 1, none⟩ (.int .i64 m')) gx hvg haw6 (fun k _ hk => Below.heap_setCell W3 ⟨gx, 1, none⟩ _ k hk)
         have hB7 : Below B w1 (W3.setCell ⟨gx, 1, none⟩ (.int .i64 m')) := hB6.setCell hgxB _
         clear hHeld hb6 hgx6 hB6 y1 f1 hvg
         generalize W3.setCell ⟨gx, 1, none⟩ (.int .i64 m') = W4 at hgx7 hb7 hB7 ⊢
         have hlen8 : (bs3 ++ [b']).length = bs3.length + 1 := by simp
         replace hlen8 := Lib.hid hlen8
         replace g1 := Lib.hid g1
         go_wp2_with fail
         go_roundw
         case measure => have := hLn.out; show 65 - L < 65 - bs3.length; omega
         case rel => exact ⟨bs3 ++ [b'], us4, m', ⟨by rw [hlen8.out, show 65 - (bs3.length + 1) = 64 - bs3.length by omega]; exact g1.out, by rw [hlen8.out]; omega, by omega, hb7, (fun y hy => by rcases List.mem_append.1 hy with h | h; exact hok3 y h; rw [List.mem_singleton.1 h]; exact hFX), hgx7, haw6, hB7⟩⟩
      ·have hQe : Hid (Q = (bs3, 0)) := Lib.hid (hQ3.symm.trans (newAll_end gs x _ bs3 m3 hm))
       have hRe : Hid (R0 = packAll gs (ord.drop (p + 1)) bs3) := Lib.hid (by rw [hRp.out, hQe.out]; rfl)
       clear hQ3 hQe hRp
       go_wp2_with fail
       go_roundw
       case measure => simp [intOf]; omega
       case rel => exact ⟨p + 1, bs3, us3, by omega, by go_num, ⟨hRe.out, hbl3, hb3, hok3⟩, hB3⟩
  ·have hpe : p = ord.length := by omega
   have hRe : Hid (R0 = (bs, 0)) := Lib.hid (by rw [hRp, hpe, List.drop_length]; rfl)
   clear hRp
   go_wp2_with fail
   go_ret2
   exact ⟨_, by rw [hRe.out]; rfl, by unfold PackedPost; rw [hRe.out]; exact ⟨vs, hbx.lower hwB⟩, belW _ hBr⟩
end Go.Proofs.YtfflbeenkfaemaaGreatDoor.Ext
namespace Go.Proofs.YtfflbeenkfaemaaGreatDoor.Ext
open Go.RowKit Go.Proofs.YtfflbeenkfaemaaGreatDoorW.PrintWords Go.Proofs.YtfflbeenkfaemaaGreatDoorW.PrintLast
def weighB (gs : List X.S30) (kind : Int) (l : List X.S55) : Int × Int := if (roomB kind).1 = 0 then (0, 1) else if (sumG gs X.S30.f2 l).2 = 0 then (if (sumG gs X.S30.f2 l).1 ≤ 1048576 then ((sumG gs X.S30.f2 l).1, 0) else (0, 3)) else (0, (sumG gs X.S30.f2 l).2)
set_option maxHeartbeats 2000000 in
theorem Weigh_any (t : Nat) (gs : List X.S30) (mk : ByteArray) (kind : Int) (A : Option Addr) (c : Nat) (l : List X.S55) (w : World) (ht : TC w t gs) (hr : LC w A l) :
  Calls Tryz.prog 16 #[.pointer (some ⟨t, 0, none⟩), .agg #[.string mk, .int .i64 kind, .slice A l.length c]] w fun e w' => e = .returned (.tuple #[.int .i64 (weighB gs kind l).1, .int .i64 (weighB gs kind l).2]) ∧ Below w.heap.size w w' := by
 have hU : Below w.heap.size w (w.alloc (.cells #[.string mk, .int .i64 kind, .slice A l.length c] 44)) := below_alloc (Below.refl _ _) _
 have cR := fun w => Room_any kind w
 have cW := Weight_any t gs A c l _ (ht.below hU).tab (hr.below hU).row (by have := hr.len; omega) hr.size ht.ok
 obtain ⟨r, hr0⟩ : ∃ r, r = weighB gs kind l := ⟨_, rfl⟩
 have h1 := fun (h : (roomB kind).1 = 0) => show r = (0, 1) by rw [hr0]; unfold weighB; rw [if_pos h]
 have h2 := fun (h : ¬ (roomB kind).1 = 0) (h' : ¬ (sumG gs X.S30.f2 l).2 = 0) => show r = (0, (sumG gs X.S30.f2 l).2) by rw [hr0]; unfold weighB; rw [if_neg h, if_neg h']
 have h3 := fun (h : ¬ (roomB kind).1 = 0) (h' : (sumG gs X.S30.f2 l).2 = 0) (h'' : ¬ (sumG gs X.S30.f2 l).1 ≤ 1048576) => show r = (0, 3) by rw [hr0]; unfold weighB; rw [if_neg h, if_pos h', if_neg h'']
 have h4 := fun (h : ¬ (roomB kind).1 = 0) (h' : (sumG gs X.S30.f2 l).2 = 0) (h'' : (sumG gs X.S30.f2 l).1 ≤ 1048576) => show r = ((sumG gs X.S30.f2 l).1, 0) by rw [hr0]; unfold weighB; rw [if_neg h, if_pos h', if_pos h'']
 rw [← hr0]
 clear hr0 ht hr
 generalize (roomB kind).1 = rw' at cR h1 h2 h3 h4
 generalize (roomB kind).2 = rv at cR
 generalize (sumG gs X.S30.f2 l).1 = wt at cW h2 h3 h4
 generalize (sumG gs X.S30.f2 l).2 = we at cW h2 h3 h4
 have k1 := (blk_cell (blk_new w (.cells #[.string mk, .int .i64 kind, .slice A l.length c] 44)) 1).trans rfl
 have k2 := (blk_cell (blk_new w (.cells #[.string mk, .int .i64 kind, .slice A l.length c] 44)) 2).trans rfl
 by_cases g1 : rw' = 0
 ·have hk := Lib.hid (h1 g1)
  subst g1
  clear h1 h2 h3 h4
  go_enter Tryz.func16, Tryz.ntmps16
  go_wp2_with fail
  refine (cR _).mono ?_
  rintro e w' ⟨rfl, rfl⟩
  go_wp2_with fail
  go_ret2
  exact ⟨by rw [hk.out]; rfl, hU⟩
 ·have d1 : (rw' == 0) = false := by simpa using g1
  by_cases g2 : we = 0
  ·by_cases g3 : wt ≤ 1048576
   ·have hk := Lib.hid (h4 g1 g2 g3)
    subst g2
    have d3 : decide (1048576 < wt) = false := by simpa using g3
    clear h1 h2 h3 h4 g1
    go_enter Tryz.func16, Tryz.ntmps16
    go_wp2_with fail
    refine (cR _).mono ?_
    rintro e w' ⟨rfl, rfl⟩
    go_wp2_with fail
    refine cW.mono ?_
    rintro e w' ⟨rfl, hb⟩
    go_wp2_with fail
    go_ret2
    exact ⟨by rw [hk.out]; rfl, below_step hU hb⟩
   ·have hk := Lib.hid (h3 g1 g2 g3)
    subst g2
    have d3 : decide (1048576 < wt) = true := by simpa using g3
    clear h1 h2 h3 h4 g1
    go_enter Tryz.func16, Tryz.ntmps16
    go_wp2_with fail
    refine (cR _).mono ?_
    rintro e w' ⟨rfl, rfl⟩
    go_wp2_with fail
    refine cW.mono ?_
    rintro e w' ⟨rfl, hb⟩
    go_wp2_with fail
    go_ret2
    exact ⟨by rw [hk.out]; rfl, below_step hU hb⟩
  ·have hk := Lib.hid (h2 g1 g2)
   have d2 : (we != 0) = true := by simpa using g2
   clear h1 h2 h3 h4 g1 g2
   go_enter Tryz.func16, Tryz.ntmps16
   go_wp2_with fail
   refine (cR _).mono ?_
   rintro e w' ⟨rfl, rfl⟩
   go_wp2_with fail
   refine cW.mono ?_
   rintro e w' ⟨rfl, hb⟩
   go_wp2_with fail
   go_ret2
   exact ⟨by rw [hk.out]; rfl, below_step hU hb⟩
def makeR (own : ByteArray) (n : Int) : ByteArray × Int := if own.size = 4 ∧ allB isLow own = true then (if 0 ≤ n ∧ n ≤ 999999 then (makeB own n, 0) else (⟨#[]⟩, 3)) else (⟨#[]⟩, 1)
theorem make_any (own : ByteArray) (n : Int) (w : World) (hs : own.size ≤ 9223372036854775807) (HT : TB w) : Calls Tryz.prog 42 #[.string own, .int .i64 n] w fun e w' => e = .returned (.tuple #[.string (makeR own n).1, .int .i64 (makeR own n).2]) ∧ Below w.heap.size w w' :=
 mark_Make.calls own n _ _ w (by unfold mark_Make.f; rw [if_pos hs]; rfl) HT
theorem makeR_ok {own : ByteArray} {n : Int} (h : (makeR own n).2 = 0) : own.size = 4 ∧ allB isLow own = true ∧ 0 ≤ n ∧ n ≤ 999999 := by
 unfold makeR at h
 split at h
 ·rename_i h1
  split at h
  ·rename_i h2
   exact ⟨h1.1, h1.2, h2.1, h2.2⟩
  ·simp at h
 ·simp at h
def markAll (own : ByteArray) (first : Int) : Nat → List X.S44 → List X.S44 × Int
 | _, [] => ([], 0)
 | i, b :: r => if (makeR own (first + i)).2 = 0 then (if (markAll own first (i + 1) r).2 = 0 then (⟨(makeR own (first + i)).1, b.f1, b.f2⟩ :: (markAll own first (i + 1) r).1, 0) else ([], (markAll own first (i + 1) r).2)) else ([], (makeR own (first + i)).2)
def packB (gs : List X.S30) (first : Int) (own : ByteArray) (l : List X.S55) : List X.S44 × Int :=
 if (makeR own first).2 = 0 then (if (sumG gs X.S30.f2 l).2 = 0 then (if (sumG gs X.S30.f3 l).2 = 0 then (if (packedB gs l).2 = 0 then markAll own first 0 (packedB gs l).1 else ([], (packedB gs l).2)) else ([], (sumG gs X.S30.f3 l).2)) else ([], (sumG gs X.S30.f2 l).2)) else ([], (makeR own first).2)
theorem markAll_err (own : ByteArray) (first : Int) : ∀ (i : Nat) (bs : List X.S44) (_ : ¬ (markAll own first i bs).2 = 0), markAll own first i bs = ([], (markAll own first i bs).2)
 | i, [], h => absurd rfl h
 | i, b :: r, h => by
  unfold markAll at h ⊢
  split
  ·rename_i h1
   rw [if_pos h1] at h
   split
   ·rename_i h2
    rw [if_pos h2] at h
    exact absurd rfl h
   ·rfl
  ·rfl
structure Marking (own : ByteArray) (first : Int) (target : List X.S44 × Int) (dn rest : List X.S44) : Prop where
 eq : target = if (markAll own first dn.length rest).2 = 0 then (dn ++ (markAll own first dn.length rest).1, 0) else ([], (markAll own first dn.length rest).2)
theorem Marking.step {own : ByteArray} {first : Int} {target : List X.S44 × Int} {dn rest : List X.S44} {b : X.S44} (h : Marking own first target dn (b :: rest)) (hm : (makeR own (first + dn.length)).2 = 0) : Marking own first target (dn ++ [⟨(makeR own (first + dn.length)).1, b.f1, b.f2⟩]) rest := by
 refine ⟨?_⟩
 rw [h.eq]
 have e : markAll own first dn.length (b :: rest) = if (markAll own first (dn.length + 1) rest).2 = 0 then (⟨(makeR own (first + dn.length)).1, b.f1, b.f2⟩ :: (markAll own first (dn.length + 1) rest).1, 0) else ([], (markAll own first (dn.length + 1) rest).2) := by
  show (if _ then _ else _) = _
  rw [if_pos hm]
 rw [e, List.length_append, List.length_singleton]
 by_cases h0 : (markAll own first (dn.length + 1) rest).2 = 0
 ·rw [if_pos h0, if_pos rfl, if_pos h0]
  simp
 ·rw [if_neg h0, if_neg h0, if_neg h0]
theorem Marking.fail {own : ByteArray} {first : Int} {target : List X.S44 × Int} {dn rest : List X.S44} {b : X.S44} (h : Marking own first target dn (b :: rest)) (hm : ¬ (makeR own (first + dn.length)).2 = 0) : target = ([], (makeR own (first + dn.length)).2) := by
 rw [h.eq]
 have e : markAll own first dn.length (b :: rest) = ([], (makeR own (first + dn.length)).2) := by
  show (if _ then _ else _) = _
  rw [if_neg hm]
 rw [e, if_neg hm]
theorem Marking.done {own : ByteArray} {first : Int} {target : List X.S44 × Int} {dn : List X.S44} (h : Marking own first target dn []) : target = (dn, 0) := by
 rw [h.eq]
 have e : markAll own first dn.length [] = ([], 0) := by unfold markAll; rfl
 rw [e, if_pos rfl, List.append_nil]
theorem sumOf_le (l : List X.S55) (s : ByteArray) : sumOf l s ≤ 9223372036854775807 := by
 have : ∀ (l : List X.S55) (n : Int), n ≤ 9223372036854775807 → l.foldl (addTo s) n ≤ 9223372036854775807 := by
  intro l
  induction l with
  | nil => exact fun n h => h
  | cons x l ih =>
   intro n h
   refine ih _ ?_
   unfold addTo
   split
   ·unfold wrap64; omega
   ·exact h
 exact this l 0 (by omega)
theorem order_ok {gs : List X.S30} {l : List X.S55} (hs : ∀ x ∈ l, x.f0.size ≤ 9223372036854775807) : ∀ z ∈ orderB gs l, z.f0.size ≤ 9223372036854775807 ∧ z.f1 ≤ 9223372036854775807 := fun z hz => by
 have hz2 : z ∈ joinB l := (sortB_perm _ _).mem_iff.1 hz
 obtain ⟨⟨y, hy, _, e⟩, hn⟩ := (joinB_mem l z).1 hz2
 exact ⟨by rw [← e]; exact hs y hy, by rw [hn]; exact sumOf_le _ _⟩
theorem order_len (gs : List X.S30) (l : List X.S55) : (orderB gs l).length ≤ l.length := by
 have := (sortB_perm (ordB gs) (joinB l)).length_eq
 have h2 := joinB_len l
 unfold orderB
 omega
theorem newAll_len (gs : List X.S30) (x : ByteArray) : ∀ (k : Nat) (bs : List X.S44) (m : Int) (_ : bs.length ≤ 64), (newAll gs x k bs m).1.length ≤ 64
 | 0, bs, m, h => h
 | k + 1, bs, m, h => by
  unfold newAll
  split
  ·split
   ·split
    ·simp
    ·exact newAll_len gs x k _ _ (by simp; omega)
   ·simp
  ·exact h
theorem packAll_len (gs : List X.S30) : ∀ (l : List X.S55) (bs : List X.S44) (_ : bs.length ≤ 64), (packAll gs l bs).1.length ≤ 64
 | [], bs, h => h
 | x :: l, bs, h => by
  rw [packAll_cons]
  split
  ·exact packAll_len gs l _ (newAll_len gs _ _ _ _ (by rw [fillAll_len]; exact h))
  ·simp
set_option maxHeartbeats 8000000 in
set_option maxRecDepth 100000 in
theorem Pack_any (t : Nat) (gs : List X.S30) (first : Int) (own : ByteArray) (A : Option Addr) (c : Nat) (l : List X.S55) (w : World) (ht : TC w t gs) (HT : TB w) (hr : LC w A l) (hl : l.length < 20) (hs : own.size ≤ 9223372036854775807) :
  Calls Tryz.prog 14 #[.pointer (some ⟨t, 0, none⟩), .int .i64 first, .string own, .slice A l.length c] w fun e w' => ∃ v, e = .returned (.tuple #[v, .int .i64 (packB gs first own l).2]) ∧ PackedPost w' w.heap.size v (packB gs first own l) ∧ Below w.heap.size w w' := by
 have cM := make_any own first w hs HT
 have cW := fun W (hW : Below w.heap.size w W) => Weight_any t gs A c l W (ht.below hW).tab (hr.below hW).row (by have := hr.len; omega) hr.size ht.ok
 have cV := fun W (hW : Below w.heap.size w W) => Volume_any t gs A c l W (ht.below hW).tab (hr.below hW).row (by have := hr.len; omega) hr.size ht.ok
 have cP := fun W (hW : Below w.heap.size w W) => packed_any t gs A c l W (ht.below hW) (hr.below hW) hl (order_ok hr.size) (by have := order_len gs l; omega)
 have hpl : (packedB gs l).1.length ≤ 64 := packAll_len gs _ _ (by simp)
 obtain ⟨r, hr0⟩ : ∃ r, r = packB gs first own l := ⟨_, rfl⟩
 have h1 := fun (g1 : ¬ (makeR own first).2 = 0) => show r = ([], (makeR own first).2) by rw [hr0]; unfold packB; rw [if_neg g1]
 have h2 := fun (g1 : (makeR own first).2 = 0) (g2 : ¬ (sumG gs X.S30.f2 l).2 = 0) => show r = ([], (sumG gs X.S30.f2 l).2) by rw [hr0]; unfold packB; rw [if_pos g1, if_neg g2]
 have h3 := fun (g1 : (makeR own first).2 = 0) (g2 : (sumG gs X.S30.f2 l).2 = 0) (g3 : ¬ (sumG gs X.S30.f3 l).2 = 0) => show r = ([], (sumG gs X.S30.f3 l).2) by rw [hr0]; unfold packB; rw [if_pos g1, if_pos g2, if_neg g3]
 have h4 := fun (g1 : (makeR own first).2 = 0) (g2 : (sumG gs X.S30.f2 l).2 = 0) (g3 : (sumG gs X.S30.f3 l).2 = 0) (g4 : ¬ (packedB gs l).2 = 0) => show r = ([], (packedB gs l).2) by rw [hr0]; unfold packB; rw [if_pos g1, if_pos g2, if_pos g3, if_neg g4]
 have h5 := fun (g1 : (makeR own first).2 = 0) (g2 : (sumG gs X.S30.f2 l).2 = 0) (g3 : (sumG gs X.S30.f3 l).2 = 0) (g4 : (packedB gs l).2 = 0) => show r = markAll own first 0 (packedB gs l).1 by rw [hr0]; unfold packB; rw [if_pos g1, if_pos g2, if_pos g3, if_pos g4]
 have hmk := fun (g1 : (makeR own first).2 = 0) => makeR_ok g1
 rw [← hr0]
 clear hr0 ht hr hl
 generalize (makeR own first).1 = mm at cM
 generalize (makeR own first).2 = me at cM h1 h2 h3 h4 h5 hmk
 generalize (sumG gs X.S30.f2 l).1 = wt at cW
 generalize (sumG gs X.S30.f2 l).2 = we at cW h2 h3 h4 h5
 generalize (sumG gs X.S30.f3 l).1 = vl at cV
 generalize (sumG gs X.S30.f3 l).2 = ve at cV h3 h4 h5
 generalize packedB gs l = P at cP h4 h5 hpl
 obtain ⟨bs0, pe⟩ := P
 simp only at cP h4 h5 hpl
 by_cases g1 : me = 0
 ·by_cases g2 : we = 0
  ·by_cases g3 : ve = 0
   ·by_cases g4 : pe = 0
    ·have hk := h5 g1 g2 g3 g4
     obtain ⟨_, _, hf0, hf1⟩ := hmk g1
     subst g1
     subst g2
     subst g3
     subst g4
     clear h1 h2 h3 h4 h5 hmk
     replace hk := Lib.hid hk
     go_enter Tryz.func14, Tryz.ntmps14
     go_wp2_with fail
     refine cM.mono ?_
     rintro e w1 ⟨rfl, hb1⟩
     go_wp2_with fail
     refine (cW _ hb1).mono ?_
     rintro e w2 ⟨rfl, hb2⟩
     have hB2 := below_step hb1 hb2
     go_wp2_with fail
     refine (cV _ hB2).mono ?_
     rintro e w3 ⟨rfl, hb3⟩
     have hB3 := below_step hB2 hb3
     go_wp2_with fail
     refine (cP _ hB3).mono ?_
     rintro e w4 ⟨v, rfl, hpp, hb4⟩
     have hB4 := below_step hB3 hb4
     unfold PackedPost at hpp
     rw [if_pos rfl] at hpp
     obtain ⟨vs, hbx⟩ := hpp
     replace hbx := hbx.lower (base' := w.heap.size) hB3.size
     simp only at hbx
     clear cM cW cV cP hb1 hb2 hb3 hb4 hB2 hB3
     obtain ⟨A6, c6, rfl, hc6⟩ := hbx.slice
     have hmk : Marking own first r [] bs0 := ⟨by
      rw [hk.out]
      show _ = if (markAll own first 0 bs0).2 = 0 then ([] ++ (markAll own first 0 bs0).1, 0) else ([], (markAll own first 0 bs0).2)
      split
      ·rename_i h0
       rw [List.nil_append, ← h0]
      ·rename_i h0
       exact markAll_err own first 0 bs0 h0⟩
     generalize hN : bs0.length = N at hc6 hpl hbx ⊢
     go_wp2_with fail
     go_loopw [59] (fun v59 wr => ∃ dn rest : List X.S44, ∃ us : List Value, v59 = .int .i64 (dn.length : Int) ∧ Aside (Marking own first r dn rest ∧ dn.length + rest.length = N ∧ BoxesAt wr w.heap.size (.slice A6 N c6) (dn ++ rest) us ∧ Below w.heap.size w wr)) (fun v59 _ => N - (intOf v59).toNat)
     case atStart => exact ⟨[], bs0, vs, rfl, ⟨hmk, by simpa using hN, hbx, hB4⟩⟩
     case round =>
      obtain ⟨dn, rest, us, rfl, hm2, hN2, hb2, hB5⟩ := hrel
      clear hmk hbx
      have cM2 := make_any own (first + (dn.length : Int)) wr hs (HT.below hB5)
      cases rest with
      | cons b rest =>
       have hlt2 : dn.length < N := by simp at hN2; omega
       replace hN2 : dn.length + 1 + rest.length = N := by simp at hN2; omega
       have hadd : IntKind.i64.wrap (first + (dn.length : Int)) = first + (dn.length : Int) := IntWalk.i64_in _ (by omega)
       have s1 := fun h => hm2.step h
       have s2 := fun h => hm2.fail h
       clear hm2
       generalize (makeR own (first + (dn.length : Int))).1 = m1 at cM2 s1
       generalize (makeR own (first + (dn.length : Int))).2 = e1 at cM2 s1 s2
       by_cases h0 : e1 = 0
       ·subst h0
        obtain ⟨g, cap, arr, ev, hgB, hgarr, hcap⟩ := hb2.form (by simp; omega)
        injection ev with ev1 ev2 ev3
        subst ev1
        subst ev3
        clear ev2 hcap
        have hbi := mid_get dn rest b
        replace s1 := s1 rfl
        clear s2
        have hdl : (dn ++ [(⟨m1, b.f1, b.f2⟩ : X.S44)]).length = dn.length + 1 := by simp
        replace hdl := Lib.hid hdl
        go_wp2_with fail
        refine cM2.mono ?_
        rintro e w6 ⟨rfl, hb6⟩
        have hg6 := blk_below hgarr hb6
        have hb3 := (hb2.below hb6).mark hbi m1
        rw [set_mid] at hb3
        obtain ⟨v, hvi⟩ : ∃ v, us[dn.length]? = some v := ⟨_, List.getElem?_eq_getElem (by rw [hb2.len]; simp)⟩
        have q0 := ((hb2.below hb6).cells hbi hvi).1
        have f0 := blk_frozen hg6 (dn.length * 3)
        have hB7 : Below w.heap.size w (w6.setCell ⟨g, dn.length * 3, none⟩ (.string m1)) := (below_step hB5 hb6).setCell hgB _
        clear hb2 hgarr hg6 hb6 cM2 hvi hbi
        replace hb3 := Lib.hid hb3
        replace hN2 := Lib.hid hN2
        go_wp2_with fail
        go_roundw
        case measure => simp [intOf]; omega
        case rel => exact ⟨dn ++ [⟨m1, b.f1, b.f2⟩], rest, us, by rw [hdl.out]; go_num, ⟨s1, by rw [hdl.out]; exact hN2.out, hb3.out, hB7⟩⟩
       ·have hd : (e1 != 0) = true := by simpa using h0
        have hRe := Lib.hid (s2 h0)
        have hne := Lib.hid h0
        clear s1 s2 h0
        go_wp2_with fail
        refine cM2.mono ?_
        rintro e w6 ⟨rfl, hb6⟩
        go_wp2_with fail
        go_ret2
        exact ⟨.slice none 0 0, by rw [hRe.out]; rfl, by unfold PackedPost; rw [hRe.out]; exact if_neg hne.out ▸ rfl, below_step hB5 hb6⟩
      | nil =>
       have hdN : dn.length = N := by simpa using hN2
       have hRe := Lib.hid hm2.done
       rw [List.append_nil] at hb2
       replace hb2 := Lib.hid hb2
       clear hm2 hN2 cM2
       rw [hdN]
       go_wp2_with fail
       go_ret2
       exact ⟨_, by rw [hRe.out]; rfl, by unfold PackedPost; rw [hRe.out]; exact ⟨us, hb2.out⟩, hB5⟩
    ·skip
     have hk := Lib.hid (h4 g1 g2 g3 g4)
     have hne := Lib.hid g4
     have hd : (pe != 0) = true := by simpa using g4
     subst g1
     subst g2
     subst g3
     clear h1 h2 h3 h4 h5 hmk g4
     go_enter Tryz.func14, Tryz.ntmps14
     go_wp2_with fail
     refine cM.mono ?_
     rintro e w1 ⟨rfl, hb1⟩
     go_wp2_with fail
     refine (cW _ hb1).mono ?_
     rintro e w2 ⟨rfl, hb2⟩
     have hB2 := below_step hb1 hb2
     go_wp2_with fail
     refine (cV _ hB2).mono ?_
     rintro e w3 ⟨rfl, hb3⟩
     have hB3 := below_step hB2 hb3
     go_wp2_with fail
     refine (cP _ hB3).mono ?_
     rintro e w4 ⟨v, rfl, hpp, hb4⟩
     have hB4 := below_step hB3 hb4
     clear hpp
     go_wp2_with fail
     go_ret2
     exact ⟨.slice none 0 0, by rw [hk.out]; rfl, by unfold PackedPost; rw [hk.out]; exact if_neg hne.out ▸ rfl, hB4⟩
   ·skip
    have hk := Lib.hid (h3 g1 g2 g3)
    have hne := Lib.hid g3
    have hd : (ve != 0) = true := by simpa using g3
    subst g1
    subst g2
    clear h1 h2 h3 h4 h5 hmk g3
    go_enter Tryz.func14, Tryz.ntmps14
    go_wp2_with fail
    refine cM.mono ?_
    rintro e w1 ⟨rfl, hb1⟩
    go_wp2_with fail
    refine (cW _ hb1).mono ?_
    rintro e w2 ⟨rfl, hb2⟩
    have hB2 := below_step hb1 hb2
    go_wp2_with fail
    refine (cV _ hB2).mono ?_
    rintro e w3 ⟨rfl, hb3⟩
    have hB3 := below_step hB2 hb3
    go_wp2_with fail
    go_ret2
    exact ⟨.slice none 0 0, by rw [hk.out]; rfl, by unfold PackedPost; rw [hk.out]; exact if_neg hne.out ▸ rfl, hB3⟩
  ·skip
   have hk := Lib.hid (h2 g1 g2)
   have hne := Lib.hid g2
   have hd : (we != 0) = true := by simpa using g2
   subst g1
   clear h1 h2 h3 h4 h5 hmk g2
   go_enter Tryz.func14, Tryz.ntmps14
   go_wp2_with fail
   refine cM.mono ?_
   rintro e w1 ⟨rfl, hb1⟩
   go_wp2_with fail
   refine (cW _ hb1).mono ?_
   rintro e w2 ⟨rfl, hb2⟩
   have hB2 := below_step hb1 hb2
   go_wp2_with fail
   go_ret2
   exact ⟨.slice none 0 0, by rw [hk.out]; rfl, by unfold PackedPost; rw [hk.out]; exact if_neg hne.out ▸ rfl, hB2⟩
 ·skip
  have hk := Lib.hid (h1 g1)
  have hne := Lib.hid g1
  have hd : (me != 0) = true := by simpa using g1
  clear h1 h2 h3 h4 h5 hmk g1
  go_enter Tryz.func14, Tryz.ntmps14
  go_wp2_with fail
  refine cM.mono ?_
  rintro e w1 ⟨rfl, hb1⟩
  go_wp2_with fail
  go_ret2
  exact ⟨.slice none 0 0, by rw [hk.out]; rfl, by unfold PackedPost; rw [hk.out]; exact if_neg hne.out ▸ rfl, hb1⟩
end Go.Proofs.YtfflbeenkfaemaaGreatDoor.Ext
namespace Go.Proofs.YtfflbeenkfaemaaGreatDoor.Ext
open Go.RowKit Go.Proofs.YtfflbeenkfaemaaGreatDoorW.PrintWords Go.Proofs.YtfflbeenkfaemaaGreatDoorW.PrintLast
def tea : ByteArray := ⟨#[116, 101, 97]⟩
def gsT : List X.S30 := [⟨tea, 0, 10, 100⟩]
def aaaa : ByteArray := ⟨#[97, 97, 97, 97]⟩
theorem tea_get : getG gsT tea = ⟨tea, 0, 10, 100⟩ := by
 unfold getG findG gsT
 simp
theorem tea_known (n : Int) (h1 : 1 ≤ n) (h2 : n ≤ 1048576) : knownB gsT [⟨tea, n⟩] = 0 := by
 have hb : badB ⟨tea, n⟩ = false := by
  have : nameB tea = true := by decide
  unfold badB cntB
  simp [this, h1, h2]
 have hm : missB gsT ⟨tea, n⟩ = false := by
  unfold missB
  rw [show (⟨tea, n⟩ : X.S55).f0 = tea from rfl, tea_get]
  show tea.toList.isEmpty = false
  rw [ByteArray.toList_eq]
  rfl
 unfold knownB
 simp [hb, hm]
theorem tea_bad (n : Int) (h : n < 1 ∨ 1048576 < n) : knownB gsT [⟨tea, n⟩] = 1 := by
 have hb : badB ⟨tea, n⟩ = true := by
  unfold badB cntB
  simp
  omega
 unfold knownB
 simp [hb]
theorem tea_wsum (of : X.S30 → Int) (n : Int) : wsum gsT of [⟨tea, n⟩] = n * of ⟨tea, 0, 10, 100⟩ := by
 show termG gsT of ⟨tea, n⟩ + 0 = _
 unfold termG
 rw [show (⟨tea, n⟩ : X.S55).f0 = tea from rfl, tea_get]
 simp
theorem tea_join (n : Int) (h1 : 1 ≤ n) (h2 : n ≤ 9223372036854775807) : joinB [⟨tea, n⟩] = [⟨tea, n⟩] := by
 symm
 refine joinB_uniq _ _ (List.pairwise_singleton _ _) (fun s => ?_) (fun z hz => ?_)
 ·constructor
  ·rintro ⟨z, hz, rfl⟩
   rw [List.mem_singleton.1 hz]
   exact ⟨_, List.mem_singleton.2 rfl, by show 0 < n; omega, rfl⟩
  ·rintro ⟨x, hx, _, rfl⟩
   exact ⟨x, hx, rfl⟩
 ·rw [List.mem_singleton.1 hz]
  show n = addTo tea 0 ⟨tea, n⟩
  unfold addTo
  rw [if_pos ⟨by show 0 < n; omega, rfl⟩]
  show n = wrap64 (0 + n)
  unfold wrap64
  omega
theorem tea_go (k n : Int) (hk : k = 0 ∨ k = 1) (h1 : 1 ≤ n) (h2 : n ≤ 1048576) : goB gsT k [⟨tea, n⟩] = (decide (n * 10 ≤ (roomB k).1) && decide (n * 100 ≤ (roomB k).2)) := by
 have h0 := tea_known n h1 h2
 have e1 : sumG gsT X.S30.f2 [⟨tea, n⟩] = (n * 10, 0) := by
  unfold sumG
  rw [if_pos h0, tea_wsum, if_pos (by show n * 10 ≤ _; omega)]
 have e2 : sumG gsT X.S30.f3 [⟨tea, n⟩] = (n * 100, 0) := by
  unfold sumG
  rw [if_pos h0, tea_wsum, if_pos (by show n * 100 ≤ _; omega)]
 have e3 : togB gsT [⟨tea, n⟩] = 0 := by
  unfold togB
  rw [if_pos h0, if_neg]
  unfold anyApart
  simp only [List.any_cons, List.any_nil, Bool.or_false]
  rw [apartB_self]
  simp
 have e4 : 0 < (roomB k).1 := by
  rcases hk with rfl | rfl <;> decide
 unfold goB
 rw [e1, e2, e3, tea_join n h1 (by omega)]
 simp [e4]
theorem tea_many (k m : Int) (hk : k = 0 ∨ k = 1) (h1 : 1 ≤ m) (h2 : m ≤ 1048576) (hr1 : m * 10 ≤ (roomB k).1) (hr2 : m * 100 ≤ (roomB k).2) : (manyB gsT k [] tea m : Int) = m := by
 have h := searchB_spec (fun i => !fitB gsT k [] tea ((i : Int) + 1)) (if m < 1048576 then m else 1048576).toNat
 have e : (if m < 1048576 then m else 1048576).toNat = m.toNat := by split <;> omega
 rw [e] at h
 have hm : manyB gsT k [] tea m = searchB (fun i => !fitB gsT k [] tea ((i : Int) + 1)) m.toNat := by unfold manyB; rw [e]
 rw [← hm] at h
 generalize manyB gsT k [] tea m = r at h
 obtain ⟨h3, _, h4⟩ := h
 rcases Nat.lt_or_ge r m.toNat with hlt | hge
 ·have h5 := h4 hlt
  exfalso
  have : fitB gsT k [] tea ((r : Int) + 1) = true := by
   unfold fitB
   rw [List.nil_append, tea_go k _ hk (by omega) (by omega)]
   simp
   constructor <;> omega
  rw [this] at h5
  cases h5
 ·omega
theorem tea_order (n : Int) (h1 : 1 ≤ n) (h2 : n ≤ 9223372036854775807) : orderB gsT [⟨tea, n⟩] = [⟨tea, n⟩] := by
 unfold orderB
 rw [tea_join n h1 h2]
 rfl
theorem tea_packed (k m : Int) (hk : k = 0 ∨ k = 1) (h1 : 1 ≤ m) (h2 : m ≤ 1048576) (hr1 : m * 10 ≤ (roomB k).1) (hr2 : m * 100 ≤ (roomB k).2) (hkd : kindB gsT tea m = (k, true)) : packedB gsT [⟨tea, m⟩] = ([⟨⟨#[]⟩, k, [⟨tea, m⟩]⟩], 0) := by
 have hm := tea_many k m hk h1 h2 hr1 hr2
 have e1 : newAll gsT tea 65 [] m = ([⟨⟨#[]⟩, k, [⟨tea, m⟩]⟩], 0) := by
  rw [newAll_step gsT tea 64 [] m (by omega) (by rw [hkd]) (by simp), hkd]
  have e2 : fillBox gsT tea (newBox k) m = ⟨⟨#[]⟩, k, [⟨tea, m⟩]⟩ := by
   have hne : ¬ manyB gsT (newBox k).f1 (newBox k).f2 tea m = 0 := fun h => by
    have : (manyB gsT k [] tea m : Int) = 0 := by exact_mod_cast h
    omega
   unfold fillBox
   rw [if_neg hne]
   show (⟨⟨#[]⟩, k, [] ++ [⟨tea, (manyB gsT k [] tea m : Int)⟩]⟩ : X.S44) = _
   rw [hm]
   rfl
  have e3 : fillLeft gsT tea (newBox k) m = 0 := by
   show m - (manyB gsT k [] tea m : Int) = 0
   omega
  rw [e2, e3, newAll_end gsT tea _ _ _ (by omega)]
  rfl
 have e4 : packOne gsT ⟨tea, m⟩ [] = ([⟨⟨#[]⟩, k, [⟨tea, m⟩]⟩], 0) := e1
 unfold packedB
 rw [tea_order m h1 (by omega), packAll_cons, e4]
 rfl
def teaMark : ByteArray := ⟨#[97, 97, 97, 97, 48, 48, 48, 48, 48, 49, 50, 48]⟩
theorem pad_one : padB 1 6 = ⟨#[48, 48, 48, 48, 48, 49]⟩ := by
 have : Lib.itoa 1 = [49] := by
  show Lib.decDigits 1 = [49]
  unfold Lib.decDigits
  rfl
 unfold padB padL
 rw [this]
 rfl
theorem pad_twenty : padB 20 2 = ⟨#[50, 48]⟩ := by
 have : Lib.itoa 20 = [50, 48] := by
  show Lib.decDigits 20 = [50, 48]
  unfold Lib.decDigits
  rw [dif_neg (by omega)]
  unfold Lib.decDigits
  rfl
 unfold padB padL
 rw [this]
 rfl
theorem tea_mark : makeR aaaa 1 = (teaMark, 0) := by
 have h1 : makeS aaaa 1 = ⟨#[97, 97, 97, 97, 48, 48, 48, 48, 48, 49]⟩ := by
  unfold makeS
  rw [pad_one]
  rfl
 have h2 : sumB ⟨#[97, 97, 97, 97, 48, 48, 48, 48, 48, 49]⟩ = 20 := by decide
 have h3 : makeB aaaa 1 = teaMark := by
  unfold makeB
  rw [h1, h2, pad_twenty]
  rfl
 unfold makeR
 rw [if_pos (by decide), if_pos (by omega), h3]
theorem tea_pack (k m : Int) (hk : k = 0 ∨ k = 1) (h1 : 1 ≤ m) (h2 : m ≤ 1048576) (hr1 : m * 10 ≤ (roomB k).1) (hr2 : m * 100 ≤ (roomB k).2) (hkd : kindB gsT tea m = (k, true)) : packB gsT 1 aaaa [⟨tea, m⟩] = ([⟨teaMark, k, [⟨tea, m⟩]⟩], 0) := by
 have h0 := tea_known m h1 h2
 have e1 : (sumG gsT X.S30.f2 [⟨tea, m⟩]).2 = 0 := by
  unfold sumG
  rw [if_pos h0, tea_wsum, if_pos (by show m * 10 ≤ _; omega)]
 have e2 : (sumG gsT X.S30.f3 [⟨tea, m⟩]).2 = 0 := by
  unfold sumG
  rw [if_pos h0, tea_wsum, if_pos (by show m * 100 ≤ _; omega)]
 unfold packB
 rw [tea_packed k m hk h1 h2 hr1 hr2 hkd, tea_mark, if_pos rfl, if_pos e1, if_pos e2, if_pos rfl]
 show (if (makeR aaaa (1 + ((0 : Nat) : Int))).2 = 0 then _ else _) = _
 rw [show (1 : Int) + ((0 : Nat) : Int) = 1 from rfl, tea_mark]
 rfl
theorem tea_400 : packB gsT 1 aaaa [⟨tea, 400⟩] = ([⟨teaMark, 1, [⟨tea, 400⟩]⟩], 0) := by
 refine tea_pack 1 400 (.inr rfl) (by omega) (by omega) (by decide) (by decide) ?_
 unfold kindB
 rw [tea_go 0 400 (.inl rfl) (by omega) (by omega), tea_go 1 1 (.inr rfl) (by omega) (by omega)]
 rfl
theorem tea_30 : packB gsT 1 aaaa [⟨tea, 30⟩] = ([⟨teaMark, 0, [⟨tea, 30⟩]⟩], 0) := by
 refine tea_pack 0 30 (.inl rfl) (by omega) (by omega) (by decide) (by decide) ?_
 unfold kindB
 rw [tea_go 0 30 (.inl rfl) (by omega) (by omega)]
 rfl
end Go.Proofs.YtfflbeenkfaemaaGreatDoor.Ext
namespace Go.Proofs.YtfflbeenkfaemaaGreatDoor.Ext
open Go.RowKit Go.Proofs.YtfflbeenkfaemaaGreatDoorW.PrintWords Go.Proofs.YtfflbeenkfaemaaGreatDoorW.PrintLast
theorem table_any (A : Option Addr) (c : Nat) (l : List X.S30) (w : World) (hr : Kd.C X.k30 w A l.length l) (hl : l.length ≤ 1000000) (hs : ∀ x ∈ l, x.f0.size ≤ 9223372036854775807) :
  Calls Tryz.prog 25 #[.slice A l.length c] w fun e w' => ∃ v, e = .returned v ∧ NewPost l v w' w.heap.size ∧ Below w.heap.size w w' := by
 have cN := New_any A c l w hr hl hs
 by_cases h : newB l = 0
 ·rw [h] at cN
  go_enter Tryz.func25, Tryz.ntmps25
  go_wp2_with fail
  refine cN.mono ?_
  rintro e w' ⟨v, rfl, hp, hb⟩
  replace hp := Lib.hid hp
  go_wp2_with fail
  go_ret
  exact ⟨_, rfl, hp.out, hb⟩
 ·have hd : (newB l != 0) = true := by simpa using h
  have hn := Lib.hid (fun W => show NewPost l (.pointer none) W w.heap.size by unfold NewPost; rw [if_neg h])
  generalize newB l = e at cN hd
  clear h
  go_enter Tryz.func25, Tryz.ntmps25
  go_wp2_with fail
  refine cN.mono ?_
  rintro e w' ⟨v, rfl, hp, hb⟩
  clear hp
  go_wp2_with fail
  go_ret
  exact ⟨_, rfl, hn.out _, hb⟩
theorem C_one44 {w : World} {A : Option Addr} {n : Nat} {l : List X.S55} (h : Kd.C X.k55 w A n l) : Kd.C X.k55 w A n l := h
/-- A row of one good. -/
theorem C_good (w : World) (g : Nat) (z : X.S30) (h : w.heap[g]? = some (.cells #[.string z.f0, .int .i64 z.f1, .int .i64 z.f2, .int .i64 z.f3] 30 (0, 0))) : Kd.C X.k30 w (some ⟨g, 0, none⟩) 1 [z] := by
 refine ⟨rfl, by decide, fun _ => ⟨⟨g, 0, none⟩, rfl, fun j p hj => ⟨[.string p.f0, .int .i64 p.f1, .int .i64 p.f2, .int .i64 p.f3], rfl, X.k30_mk _ _, fun i u hu => ?_⟩⟩⟩
 have hj0 : j = 0 := by have := (List.getElem?_eq_some_iff.1 hj).1; simp at this; omega
 subst hj0
 obtain rfl : z = p := by simpa using hj
 have ha : (⟨g, 0, none⟩ : Addr).add (0 * X.k30.sz + i) = ⟨g, i, none⟩ := by rw [add0]; simp
 rw [ha, blk_cell h i]
 match i, hu with
 | 0, hu => exact hu
 | 1, hu => exact hu
 | 2, hu => exact hu
 | 3, hu => exact hu
 | (i + 4), hu => simp at hu
theorem newB_tea : newB gsT = 0 := by decide
theorem goodsOk_new {gs : List X.S30} (h : newB gs = 0) : GoodsOk gs := fun z hz => by
 unfold newB at h
 split at h
 ·omega
 ·rename_i h1
  have h3 : ∀ x ∈ gs, mayB x = true := by simpa using h1
  have h2 := h3 z hz
  simp [mayB, cntB] at h2
  obtain ⟨a, b, c, ⟨d, e⟩, f, g⟩ := h2
  exact ⟨a, b, c, d, e, f, g⟩
/-- What the examples' boxes look like in memory. -/
theorem one_box {w : World} {base : Nat} {v : Value} {k n : Int} (h : PackedPost w base v ([⟨teaMark, k, [⟨tea, n⟩]⟩], 0)) : ∃ g cap u c, v = .slice (some ⟨g, 0, none⟩) 1 cap ∧ w.cell? ⟨g, 0, none⟩ = some (.string teaMark) ∧ w.cell? ⟨g, 1, none⟩ = some (.int .i64 k) ∧ w.cell? ⟨g, 2, none⟩ = some (.slice (some ⟨u, 0, none⟩) 1 c) ∧ w.cell? ⟨u, 1, none⟩ = some (.int .i64 n) := by
 unfold PackedPost at h
 rw [if_pos rfl] at h
 obtain ⟨vs, hb⟩ := h
 simp only at hb
 obtain ⟨g, cap, arr, rfl, hgB, harr, hcap⟩ := hb.form (by simp)
 obtain ⟨u, hu⟩ : ∃ u, vs[0]? = some u := ⟨_, List.getElem?_eq_getElem (by rw [hb.len]; simp)⟩
 obtain ⟨c0, c1, c2⟩ := hb.cells (i := 0) (b := ⟨teaMark, k, [⟨tea, n⟩]⟩) rfl hu
 have hR := hb.rows 0 _ u rfl hu
 simp only at hR
 obtain ⟨A, c, rfl⟩ := Kd.R_slice hR
 have hC := (Kd.R_reads' hR).2.2
 obtain ⟨ad, eA, f0, f1⟩ := X.at_T55 hC 0 (by omega) (by simp)
 subst eA
 obtain ⟨c3, ev⟩ := R_at_block hR (b := ad.block) rfl
 injection ev with e1 e2 e3
 injection e1 with e1
 refine ⟨g, cap, ad.block, c, rfl, by simpa using c0, by simpa using c1, by simpa [← e1] using c2, ?_⟩
 generalize ad.block = q at e1 ⊢
 subst e1
 have : (⟨((⟨q, 0, none⟩ : Addr).add ((0 : Int).toNat * 2)).block, ((⟨q, 0, none⟩ : Addr).add ((0 : Int).toNat * 2)).off + 1, none⟩ : Addr) = ⟨q, 1, none⟩ := by
  rw [add0]
  rfl
 rw [this] at f1
 exact f1
set_option maxHeartbeats 8000000 in
set_option maxRecDepth 100000 in
theorem awake_any (w : World) (hap : ApartAt w) (HT : TB w) :
  Calls Tryz.prog 23 #[] w fun e w' => e = .returned (.bool true) ∧ Below w.heap.size w w' := by
 have hU : Below w.heap.size w (w.alloc (.cells #[.string tea, .int .i64 0, .int .i64 10, .int .i64 100] 30)) := below_alloc (Below.refl _ _) _
 have cT := table_any (some ⟨w.heap.size, 0, none⟩) 1 gsT _ (C_good _ w.heap.size ⟨tea, 0, 10, 100⟩ (blk_new w _)) (by simp [gsT]) (by intro x hx; rw [List.mem_singleton.1 hx]; decide)
 have cP := fun (t : Nat) (n : Int) (g : Nat) W (hW : Below w.heap.size w W) (ht : TabIn W t gsT) (hn : W.heap[g]? = some (.cells #[.string tea, .int .i64 n] 55 (0, 0))) =>
  Pack_any t gsT 1 aaaa (some ⟨g, 0, none⟩) 1 [⟨tea, n⟩] W ⟨ht, hap.below hW, goodsOk_new newB_tea⟩ (HT.below hW) ⟨C_one W g tea n ((blk_cell hn 0).trans rfl) ((blk_cell hn 1).trans rfl), by simp, by intro x hx; rw [List.mem_singleton.1 hx]; show tea.size ≤ _; decide⟩ (by simp) (by decide)
 have c1 := fun t g W hW ht hn => cP t 400 g W hW ht hn
 have c2 := fun t g W hW ht hn => cP t 30 g W hW ht hn
 rw [tea_400] at c1
 rw [tea_30] at c2
 clear cP
 rw [show gsT.length = 1 from rfl] at cT
 simp only [List.length_cons, List.length_nil, Nat.zero_add] at c1 c2
 unfold tea at cT
 unfold tea aaaa at c1 c2
 go_enter Tryz.func23, Tryz.ntmps23
 go_wp2_with fail
 (with_reducible refine cT.mono ?_)
 rintro e w1 ⟨v, rfl, hp, hb1⟩
 unfold NewPost at hp
 rw [if_pos newB_tea] at hp
 obtain ⟨t, rfl, _, hti⟩ := hp
 have hB1 := below_step hU hb1
 have hU1 : Below w1.heap.size w1 (w1.alloc (.cells #[.string ⟨#[116, 101, 97]⟩, .int .i64 400] 55)) := below_alloc (Below.refl _ _) _
 have d1 := c1 t w1.heap.size _ (below_step hB1 hU1) (hti.below hU1) (blk_new w1 _)
 clear cT c1
 go_wp2_with fail
 (with_reducible refine d1.mono ?_)
 rintro e w2 ⟨v1, rfl, hp1, hb2⟩
 obtain ⟨g, cap, u, c, rfl, f0, f1, f2, f3⟩ := one_box hp1
 have hB2 := below_step (below_step hB1 hU1) hb2
 have hti2 := hti.below (below_step hU1 hb2)
 have hU2 : Below w2.heap.size w2 (w2.alloc (.cells #[.string ⟨#[116, 101, 97]⟩, .int .i64 30] 55)) := below_alloc (Below.refl _ _) _
 have d2 := c2 t w2.heap.size _ (below_step hB2 hU2) (hti2.below hU2) (blk_new w2 _)
 clear d1 c2 hp1
 go_wp2_with fail
 (with_reducible refine d2.mono ?_)
 rintro e w3 ⟨v2, rfl, hp2, hb3⟩
 obtain ⟨g', cap', u', c', rfl, k0, k1, k2, k3⟩ := one_box hp2
 have hB3 := below_step (below_step hB2 hU2) hb3
 have hB23 := below_step hU2 hb3
 replace f0 := keepw hB23 f0
 replace f1 := keepw hB23 f1
 unfold teaMark at f0
 clear d2 hp2 f2 f3 k0
 go_wp2_with fail
 go_ret
 exact ⟨rfl, hB3⟩
end Go.Proofs.YtfflbeenkfaemaaGreatDoor.Ext
namespace Go.Proofs.YtfflbeenkfaemaaGreatDoor.Ext
instance decLot : DecidableEq X.S55 := fun a b => if h : a.f0 = b.f0 ∧ a.f1 = b.f1 then isTrue (by cases a; cases b; simp at h; simp [h]) else isFalse (fun e => h (by rw [e]; exact ⟨rfl, rfl⟩))
end Go.Proofs.YtfflbeenkfaemaaGreatDoor.Ext
namespace Go.Proofs.YtfflbeenkfaemaaGreatDoor.Ext
open Go.RowKit Go.Proofs.YtfflbeenkfaemaaGreatDoorW.PrintWords
def goods_Join.f (l : List X.S55) : Option (List X.S55) := if l.length ≤ 100000 ∧ ∀ x ∈ l, x.f0.size ≤ 9223372036854775807 then some (joinB l) else none
theorem goods_Join.calls (A0 : Option Addr) (c0 : Nat) (l0 : List X.S55) (r : List X.S55) (w : World) (hr0 : Kd.C X.k55 w A0 l0.length l0) (_hc0 : l0.length ≤ c0) (h : goods_Join.f l0 = some r) :
  Calls Tryz.prog 21 #[.slice A0 l0.length c0] w fun e w' => ∃ v0_ : Value, e = .returned (v0_) ∧ Kd.R X.k55 55 w' w.heap.size (fun _ => True) v0_ r ∧ Below w.heap.size w w' := by
 unfold goods_Join.f at h
 split at h
 ·rename_i h1
  cases h
  exact Join_any A0 c0 l0 w hr0 h1.1 h1.2
 ·cases h
def supercargoref11_Join.f (l : List X.S55) : Option (List X.S55) := if l.length ≤ 100000 then some (rjoinB l) else none
theorem supercargoref11_Join.calls (A0 : Option Addr) (c0 : Nat) (l0 : List X.S55) (r : List X.S55) (w : World) (hr0 : Kd.C X.k55 w A0 l0.length l0) (_hc0 : l0.length ≤ c0) (h : supercargoref11_Join.f l0 = some r) :
  Calls Tryz.prog 37 #[.slice A0 l0.length c0] w fun e w' => ∃ v0_ : Value, e = .returned (v0_) ∧ Kd.R X.k55 55 w' w.heap.size (fun _ => True) v0_ r ∧ Below w.heap.size w w' := by
 unfold supercargoref11_Join.f at h
 split at h
 ·rename_i h1
  cases h
  exact RJoin_any A0 c0 l0 w hr0 h1
 ·cases h
def itoaB (n : Int) : ByteArray := ⟨(Lib.itoa n).toArray⟩
def strconv_Itoa.f (n : Int) : Option ByteArray := if -9223372036854775808 ≤ n ∧ n ≤ 9223372036854775807 then some (itoaB n) else none
theorem strconv_Itoa.calls (a0 : Int) (r : ByteArray) (w : World) (h : strconv_Itoa.f a0 = some r) (HT : TB w) :
  Calls Tryz.prog 99 #[.int .i64 a0] w fun e w' => e = .returned (.string r) ∧ Below w.heap.size w w' := by
 unfold strconv_Itoa.f at h
 split at h
 ·rename_i h1
  cases h
  exact (Tryz.strconv_Itoa a0 h1.1 h1.2 w HT.here).mono fun _ _ ⟨he, k, os, hw⟩ => ⟨he, hw ▸ Lib.below_grow _ w (Nat.le_refl _) k os⟩
 ·cases h
end Go.Proofs.YtfflbeenkfaemaaGreatDoor.Ext
namespace Go.Proofs.YtfflbeenkfaemaaGreatDoor.X
open Go.RowKit Go.Proofs.YtfflbeenkfaemaaGreatDoor.Ext Go.Proofs.YtfflbeenkfaemaaGreatDoorW.PrintWords Go.Proofs.YtfflbeenkfaemaaGreatDoorW.PrintLast Go.Proofs.YtfflbeenkfaemaaGreatDoorW.PrintMore
attribute [local go_sem] max2_int min2_int max_two min_two max_three min_three max_four min_four   -- for this text's walks alone
set_option linter.unusedVariables false
set_option linter.unusedSimpArgs false
def pack_Content.l0 : Nat → List (S55) → List (S44) → Int → Int → Option ((List (S55)))
 | 0, _, _, _, _ => none
 | k + 1, x3, x6, x7, x8 => if x8 < x7 then (if 0 ≤ x8 then (if x8 < (x6.length : Int) then (if x3.length + ((rd_T44 x6 x8).f2).length < 5864062014805 then (pack_Content.l0 k (x3 ++ ((rd_T44 x6 x8).f2)) x6 x7 (wrap64 (x8 + 1))) else (none)) else (none)) else (none)) else ((goods_Join.f x3).bind fun t106 => (some t106))
def pack_Content.f (k : Nat) (l0 : List (S44)) : Option ((List (S55))) := pack_Content.l0 k ([] : List (S55)) l0 (l0.length : Int) 0
theorem pack_Content.mono_l : ∀ k, (∀ y0 y1 y2 y3, LeO (pack_Content.l0 k y0 y1 y2 y3) (pack_Content.l0 (k + 1) y0 y1 y2 y3))
 | 0 => fun _ _ _ _ r h => by simp [pack_Content.l0] at h
 | k + 1 => by
  have ih0 := pack_Content.mono_l k
  ·intro y0 y1 y2 y3
   unfold pack_Content.l0
   repeat' first
   | (with_reducible exact ih0 _ _ _ _)
   | (with_reducible exact LeO.refl _)
   | (with_reducible exact LeO.none _)
   | (with_reducible refine LeO.ite ?_ ?_)
   | (with_reducible refine LeO.bind ?_ (fun _ => ?_))
   | exact ih0 _ _ _ _
   | exact LeO.none _
   | refine LeO.ite ?_ ?_
   | refine LeO.bind ?_ (fun _ => ?_)
theorem pack_Content.mono : ∀ a0 k, LeO (pack_Content.f k a0) (pack_Content.f (k + 1) a0) := by
 intro a0 k
 have ih0 := pack_Content.mono_l k
 unfold pack_Content.f
 repeat' first
   | (with_reducible exact ih0 _ _ _ _)
   | (with_reducible exact LeO.refl _)
   | (with_reducible exact LeO.none _)
   | (with_reducible refine LeO.ite ?_ ?_)
   | (with_reducible refine LeO.bind ?_ (fun _ => ?_))
   | exact ih0 _ _ _ _
   | exact LeO.none _
   | refine LeO.ite ?_ ?_
   | refine LeO.bind ?_ (fun _ => ?_)
set_option maxHeartbeats 8000000 in
set_option maxRecDepth 100000 in
theorem pack_Content.calls (k : Nat) (A0 : Option Addr) (c0 : Nat) (l0 : List (S44)) (r : List (S55)) (w : World) (hr0 : Kd.C k44 w A0 l0.length l0) (hc0 : l0.length ≤ c0) (h : pack_Content.f k l0 = some r) :
  Calls Tryz.prog 20 #[.slice A0 l0.length c0] w fun e w' => ∃ v0_ : Value, e = .returned (v0_) ∧ Kd.R k55 55 w' w.heap.size (fun _ => True) v0_ r ∧ Below w.heap.size w w' := by
 have hu44 := Tryz.underlying44
 have HR0 := Aside0.mk hr0
 have HC0 := Aside0.mk hc0
 clear hr0 hc0
 have HB := Aside0.mk (Below.refl w.heap.size w)
 have H : (pack_Content.l0 k ([] : List (S55)) l0 (l0.length : Int) 0) = some r := h
 clear h
 have H' := Aside0.mk H
 clear H
 go_enter Tryz.func20, Tryz.ntmps20
 go_wp2
 go_loopg [3, 8] k (fun kq v3 v8 w' => ∃ (x3_1 : List (S55)) (x8_1 : Int), v8 = .int .i64 x8_1 ∧ Aside0 (pack_Content.l0 kq x3_1 l0 (l0.length : Int) x8_1 = some r) ∧ Aside0 (kq ≤ k) ∧ Aside0 (Kd.R k55 55 w' w.heap.size (fun _ => True) v3 x3_1) ∧ Aside0 (Below w.heap.size w w'))
 case atStart => exact ⟨(([] : List (S55))), (0), (by first | rfl | (simp; done) | (simp [*]; done)), H', ⟨Nat.le_refl _⟩, ⟨by first | exact Kd.R_nil _ _ _ _ _ | exact Kd.N_nil _ _ _ _ _ | exact Kd.V_nil _ _ _ _ _ | exact Kd.Q_nil _ _ _ _ _ | exact Kd.S_nil _ _ _ _ _⟩, ⟨by repeat (first | (with_reducible first | exact HB.out | apply below_alloc | apply pw_below_drewN | apply below_drew1) | exact HB.out)⟩⟩
 case round =>
  clear H'
  obtain ⟨x3_1, x8_1, rfl, HA, HK1, HO_3, HB⟩ := hrel
  cases gk with
  | zero => exact absurd HA.out (by simp [pack_Content.l0])
  | succ k1 =>
   have H := HA.out
   clear HA
   simp only [pack_Content.l0] at H
   by_cases c2 : x8_1 < (l0.length : Int)
   ·rw [if_pos c2] at H
    have c2b0 : decide (x8_1 < (l0.length : Int)) = true := decide_eq_true c2
    clear c2
    by_cases c3 : 0 ≤ x8_1
    ·rw [if_pos c3] at H
     have c3b0 : decide (0 ≤ x8_1) = true := decide_eq_true c3
     clear c3
     by_cases c4 : x8_1 < (l0.length : Int)
     ·rw [if_pos c4] at H
      have c4b0 : decide (x8_1 < (l0.length : Int)) = true := decide_eq_true c4
      clear c4
      by_cases c5 : x3_1.length + ((rd_T44 l0 x8_1).f2).length < 5864062014805
      ·rw [if_pos c5] at H
       have LMc5 := Aside0.mk c5
       clear c5
       obtain ⟨y103, hy103⟩ : ∃ y_ : List (S55), y_ = (x3_1 ++ ((rd_T44 l0 x8_1).f2)) := ⟨_, rfl⟩
       replace H : (pack_Content.l0 k1 y103 l0 (l0.length : Int) (wrap64 (x8_1 + 1))) = some r := by first | (rw [hy103]; with_reducible exact H) | (have H2_ := (Option.bind_some _ _).symm.trans H; rw [hy103]; with_reducible exact H2_) | (have H2_ := (Option.bind_some _ _).symm.trans H; with_reducible exact H2_) | with_reducible exact H | (rw [hy103]; exact H) | exact H
       have Ny103 := Aside0.mk hy103
       clear hy103
       have H' := Aside0.mk H
       clear H
       have p101 : 0 ≤ (x8_1 : Int) := of_decide_eq_true (by first | (with_reducible assumption) | assumption)
       have q101 : x8_1 < (l0.length : Int) := of_decide_eq_true (by first | (with_reducible assumption) | assumption)
       obtain ⟨ad101, A101_2, c101_2, e101, hx101_0, hx101_1, hx101_2, hl101_2, hi101_2⟩ := at_T44 HR0.out x8_1 p101 q101
       cases e101
       replace hx101_0 := (HB.out.cell (World.block_lt_of_cell? w _ hx101_0)).trans hx101_0
       replace hx101_1 := (HB.out.cell (World.block_lt_of_cell? w _ hx101_1)).trans hx101_1
       replace hx101_2 := (HB.out.cell (World.block_lt_of_cell? w _ hx101_2)).trans hx101_2
       have HR101_2 := Aside0.mk hi101_2
       have HC101_2 := Aside0.mk hl101_2
       clear hi101_2 hl101_2
       replace p101 := eq_true p101
       replace q101 := eq_true q101
       go_wp2_with (first | ((with_reducible refine gate_dst (N := 5) rfl ?_); refine box_event ?hg (N := 5) ?hd (cs := #[.string (⟨#[]⟩ : ByteArray), .int .i64 0, .slice none 0 0]) (t := 44) ?hr ?_; (case hd => rfl); (case hg => rfl); (case hr => first | (go_simp; done) | (go_simp; rfl)); intro gb102 hg w6 hbox hb; have n0_ := Aside0.mk (Kd.R_below (by (with_reducible repeat (first | apply Kd.R_alloc | apply Kd.R_drewN | apply Kd.R_drew)); exact HO_3.out) hb); have n1_ := Aside0.mk (below_step (by repeat (first | (with_reducible first | exact HB.out | apply below_alloc | apply pw_below_drewN | apply below_drew1) | exact HB.out)) hb); have n2_ := Aside0.mk (hbox); have n3_ := Aside0.mk ((by rw [hg]; exact (below_size (by repeat (first | (with_reducible first | exact HB.out | apply below_alloc | apply pw_below_drewN | apply below_drew1) | exact HB.out))) : w.heap.size ≤ gb102)); have n4_ := Aside0.mk ((by rw [hg]; exact (below_size (by repeat (first | (with_reducible first | exact HB.out | apply below_alloc | apply pw_below_drewN | apply below_drew1) | exact HB.out))) : w.heap.size ≤ gb102)); clear HO_3; clear HB; have HO_3 := n0_; have HB := n1_; have BK102 := n2_; have GW102 := n3_; have GE102 := n4_; clear n0_ n1_ n2_ n3_ n4_; clear hb hbox hg; have hcz7_0 : w6.cell? ⟨gb102, 0, none⟩ = some (.string (⟨#[]⟩ : ByteArray)) := (blk_cell BK102.out 0).trans rfl; have hcz7_1 : w6.cell? ⟨gb102, 1, none⟩ = some (.int .i64 0) := (blk_cell BK102.out 1).trans rfl; have hcz7_2 : w6.cell? ⟨gb102, 2, none⟩ = some (.slice none 0 0) := (blk_cell BK102.out 2).trans rfl; have hfz7_0 := blk_frozen BK102.out 0; have hfz7_1 := blk_frozen BK102.out 1; have hfz7_2 := blk_frozen BK102.out 2) | ((with_reducible refine gate_builtin (b := .append) (xs := #[.tmp 12, .tmp 14]) rfl ?_); at_builtin; refine Kd.R_append_rows k55 (w0 := w) w.heap.size rfl (.tmp 12) (.tmp 14) 35 55 (.agg #[(.string ⟨#[]⟩), (.int .i64 0)]) 24 rfl Tryz.underlying35 info55 rfl (by decide) (by omega) u3 x3_1 ((rd_T44 l0 x8_1).f2) _ _ _ (fun _ => True) (fun _ => False) rfl rfl ?aO ?aR (fun _ _ h => h) (fun _ h => h.elim) ?aF ?aB ?aS ?aL ?_; (case aR => exact Kd.C_below HR101_2.out (by repeat (first | (with_reducible first | exact HB.out | apply below_alloc | apply pw_below_drewN | apply below_drew1 | refine below_set ?_ GE102.out) | exact HB.out))); (case aB => exact (by repeat (first | (with_reducible first | exact HB.out | apply below_alloc | apply pw_below_drewN | apply below_drew1 | refine below_set ?_ GE102.out) | exact HB.out))); (case aF => exact (fun _ _ => trivial)); (case aO => exact (by (with_reducible repeat (first | apply Kd.R_alloc | apply Kd.R_drewN | apply Kd.R_drew)); exact Kd.R_mono (Kd.R_far (p := ⟨gb102, 2, none⟩) (Kd.R_far (p := ⟨gb102, 1, none⟩) (Kd.R_far (p := ⟨gb102, 0, none⟩) (Kd.R_types HO_3.out BK102.out (by decide)) (fun _ hk => hk.2) (.string ((rd_T44 l0 x8_1).f0))) (fun _ hk => hk.2) (.int .i64 ((rd_T44 l0 x8_1).f1))) (fun _ hk => hk.2) (.slice A101_2 ((rd_T44 l0 x8_1).f2).length c101_2)) (fun _ hk => trivial))); (case aS => exact (below_size (by repeat (first | (with_reducible first | exact HB.out | apply below_alloc | apply pw_below_drewN | apply below_drew1 | refine below_set ?_ GE102.out) | exact HB.out)))); (case aL => have := LMc5.out; omega); intro v104 w8 ho hb hg hat; rw [← Ny103.out] at ho; have n0_ := Aside0.mk (blk_grown (g := gb102) (o := .cells #[.string ((rd_T44 l0 x8_1).f0), .int .i64 ((rd_T44 l0 x8_1).f1), .slice A101_2 ((rd_T44 l0 x8_1).f2).length c101_2] 44 (0, 0)) (by (with_reducible repeat (first | refine blk_drewN ?_ _ | refine blk_drew ?_ | refine blk_alloc ?_ _)); refine blk_put (cs := #[.string ((rd_T44 l0 x8_1).f0), .int .i64 ((rd_T44 l0 x8_1).f1), .slice none 0 0]) ?_ 2 _ rfl; (with_reducible repeat (first | refine blk_drewN ?_ _ | refine blk_drew ?_ | refine blk_alloc ?_ _)); refine blk_put (cs := #[.string ((rd_T44 l0 x8_1).f0), .int .i64 0, .slice none 0 0]) ?_ 1 _ rfl; (with_reducible repeat (first | refine blk_drewN ?_ _ | refine blk_drew ?_ | refine blk_alloc ?_ _)); refine blk_put (cs := #[.string (⟨#[]⟩ : ByteArray), .int .i64 0, .slice none 0 0]) ?_ 0 _ rfl; (with_reducible repeat (first | refine blk_drewN ?_ _ | refine blk_drew ?_ | refine blk_alloc ?_ _)); exact BK102.out) hg (Kd.R_ne HO_3.out BK102.out (by decide))); have n1_ := Aside0.mk (hb); have n2_ := Aside0.mk (ho); clear BK102; clear HB; clear HO_3; have BK102 := n0_; have HB := n1_; have HO105 := n2_; clear n0_ n1_ n2_; clear ho hb hg hat))
       go_roundg k1
       case measure => have := HK1.out; omega
       case rel => exact ⟨(y103), (wrap64 (x8_1 + 1)), (by first | rfl | (simp; done) | (simp [*]; done)), H', ⟨by have := HK1.out; omega⟩, ⟨by (with_reducible repeat (first | apply Kd.R_alloc | apply Kd.R_drewN | apply Kd.R_drew)); exact HO105.out⟩, ⟨by repeat (first | (with_reducible first | exact HB.out | apply below_alloc | apply pw_below_drewN | apply below_drew1 | refine below_set ?_ GE102.out) | exact HB.out)⟩⟩
      ·rw [if_neg c5] at H
       exact absurd H (by simp)
     ·rw [if_neg c4] at H
      exact absurd H (by simp)
    ·rw [if_neg c3] at H
     exact absurd H (by simp)
   ·rw [if_neg c2] at H
    have c2b0 : decide (x8_1 < (l0.length : Int)) = false := decide_eq_false c2
    clear c2
    replace H := Option.bind_eq_some_iff.mp H
    obtain ⟨t106, A90, H⟩ := H
    replace H : (some t106) = some r := H
    have A9 := Aside0.mk A90
    clear A90
    obtain rfl := Option.some.inj H
    obtain ⟨Ao10, co10, eo10⟩ := Kd.R_slice HO_3.out
    subst eo10
    go_wp2_with (first | ((with_reducible refine gate_callee (f := 21) rfl ?_); refine goesL_ (some 18) rfl rfl Tryz.func21 (by kernel_rfl) rfl #[.slice Ao10 x3_1.length co10] rfl (by (try simp only [List.map_toArray, List.map_cons, List.map_nil]); first | done | rfl | (simp only [List.length_drop, List.length_take]; rfl)) ?_; (with_reducible refine (goods_Join.calls _ _ x3_1 t106 _ ?side1 ?side2 A9.out).mono ?_); (case side1 => repeat (first | exact (Kd.R_reads' HO_3.out).2.2 | (with_reducible refine Kd.C_alloc ?_ _) | (with_reducible refine Kd.C_drewN ?_ _) | (with_reducible refine Kd.C_drew ?_))); (case side2 => exact (Kd.R_reads' HO_3.out).2.1); rintro e w11 ⟨v107, rfl, ho0, hb⟩; refine ⟨_, rfl, ?_⟩; have n0_ := Aside0.mk (Kd.R_elder' (by (with_reducible repeat (first | apply Kd.R_alloc | apply Kd.R_drewN | apply Kd.R_drew)); exact HO_3.out) (Kd.R_base ho0) hb); have n1_ := Aside0.mk (Kd.R_lower (Kd.R_new' ho0 (Kd.R_lt (by (with_reducible repeat (first | apply Kd.R_alloc | apply Kd.R_drewN | apply Kd.R_drew)); exact HO_3.out))) (below_size (by repeat (first | (with_reducible first | exact HB.out | apply below_alloc | apply pw_below_drewN | apply below_drew1) | exact HB.out)))); have n2_ := Aside0.mk (below_step (by repeat (first | (with_reducible first | exact HB.out | apply below_alloc | apply pw_below_drewN | apply below_drew1) | exact HB.out)) hb); clear HO_3; clear HB; have HO_3 := n0_; have HO108 := n1_; have HB := n2_; clear n0_ n1_ n2_; (try clear hb); (try clear hb2); (try clear hk); (try clear hi); (try clear ho0)))
    go_ret
    exact ⟨_, by first | rfl | (simp [errW_none, errW_some] <;> rfl) | (simp [*, errW_none, errW_some] <;> rfl), by (with_reducible repeat (first | apply Kd.R_alloc | apply Kd.R_drewN | apply Kd.R_drew)); exact Kd.R_mono HO108.out (fun _ hk => trivial), by repeat (first | (with_reducible first | exact HB.out | apply below_alloc | apply pw_below_drewN | apply below_drew1) | exact HB.out)⟩
def supercargoref12_Content.l0 : Nat → List (S44) → List (S55) → Int → Option ((List (S55)))
 | 0, _, _, _ => none
 | k + 1, x0, x3, x4 => if x4 < (x0.length : Int) then (if 0 ≤ x4 then (if x3.length + ((rd_T44 x0 x4).f2).length < 5864062014805 then (supercargoref12_Content.l0 k x0 (x3 ++ ((rd_T44 x0 x4).f2)) (wrap64 (x4 + 1))) else (none)) else (none)) else ((supercargoref11_Join.f x3).bind fun t128 => (some t128))
def supercargoref12_Content.f (k : Nat) (l0 : List (S44)) : Option ((List (S55))) := supercargoref12_Content.l0 k l0 (([] : List (S55))) 0
theorem supercargoref12_Content.mono_l : ∀ k, (∀ y0 y1 y2, LeO (supercargoref12_Content.l0 k y0 y1 y2) (supercargoref12_Content.l0 (k + 1) y0 y1 y2))
 | 0 => fun _ _ _ r h => by simp [supercargoref12_Content.l0] at h
 | k + 1 => by
  have ih0 := supercargoref12_Content.mono_l k
  ·intro y0 y1 y2
   unfold supercargoref12_Content.l0
   repeat' first
   | (with_reducible exact ih0 _ _ _)
   | (with_reducible exact LeO.refl _)
   | (with_reducible exact LeO.none _)
   | (with_reducible refine LeO.ite ?_ ?_)
   | (with_reducible refine LeO.bind ?_ (fun _ => ?_))
   | exact ih0 _ _ _
   | exact LeO.none _
   | refine LeO.ite ?_ ?_
   | refine LeO.bind ?_ (fun _ => ?_)
theorem supercargoref12_Content.mono : ∀ a0 k, LeO (supercargoref12_Content.f k a0) (supercargoref12_Content.f (k + 1) a0) := by
 intro a0 k
 have ih0 := supercargoref12_Content.mono_l k
 unfold supercargoref12_Content.f
 repeat' first
   | (with_reducible exact ih0 _ _ _)
   | (with_reducible exact LeO.refl _)
   | (with_reducible exact LeO.none _)
   | (with_reducible refine LeO.ite ?_ ?_)
   | (with_reducible refine LeO.bind ?_ (fun _ => ?_))
   | exact ih0 _ _ _
   | exact LeO.none _
   | refine LeO.ite ?_ ?_
   | refine LeO.bind ?_ (fun _ => ?_)
set_option maxHeartbeats 8000000 in
set_option maxRecDepth 100000 in
theorem supercargoref12_Content.calls (k : Nat) (A0 : Option Addr) (c0 : Nat) (l0 : List (S44)) (r : List (S55)) (w : World) (hr0 : Kd.C k44 w A0 l0.length l0) (hc0 : l0.length ≤ c0) (h : supercargoref12_Content.f k l0 = some r) :
  Calls Tryz.prog 34 #[.slice A0 l0.length c0] w fun e w' => ∃ v0_ : Value, e = .returned (v0_) ∧ Kd.R k55 55 w' w.heap.size (fun _ => True) v0_ r ∧ Below w.heap.size w w' := by
 have HR0 := Aside0.mk hr0
 have HC0 := Aside0.mk hc0
 clear hr0 hc0
 have HB := Aside0.mk (Below.refl w.heap.size w)
 have H : (supercargoref12_Content.l0 k l0 (([] : List (S55))) 0) = some r := h
 clear h
 obtain ⟨y121, hy121⟩ : ∃ y_ : List (S55), y_ = (([] : List (S55))) := ⟨_, rfl⟩
 replace H : (supercargoref12_Content.l0 k l0 y121 0) = some r := by first | (rw [hy121]; with_reducible exact H) | (have H2_ := (Option.bind_some _ _).symm.trans H; rw [hy121]; with_reducible exact H2_) | (have H2_ := (Option.bind_some _ _).symm.trans H; with_reducible exact H2_) | with_reducible exact H | (rw [hy121]; exact H) | exact H
 have Ny121 := Aside0.mk hy121
 clear hy121
 have H' := Aside0.mk H
 clear H
 go_enter Tryz.func34, Tryz.ntmps34
 go_wp2_with (first | ((with_reducible refine gate_dst (N := 5) rfl ?_); refine Kd.R_lit k55 _ 55 ?hg (N := 5) ?hd (xs := ([] : List (S55))) (inner := []) (ok := fun _ => True) (okp := fun _ => True) ?hr ?hp (fun _ hk => hk) trivial (Below.refl _ _) (Nat.le_refl _) (by simp) ?_; (case hd => rfl); (case hg => rfl); (case hr => first | (go_simp; done) | (go_simp; rfl)); (case hp => exact (Reps.none _ _)); intro v122 w2 ho3 hb hg_ hnew_; clear hg_ hnew_; (first | rw [← Ny121.out] at ho3 | (simp only [Int.reduceToNat] at ho3; rw [← Ny121.out] at ho3)); have n0_ := Aside0.mk (Kd.R_lower ho3 (below_size (by repeat (first | (with_reducible first | exact HB.out | apply below_alloc | apply pw_below_drewN | apply below_drew1) | exact HB.out)))); have n1_ := Aside0.mk (below_step (by repeat (first | (with_reducible first | exact HB.out | apply below_alloc | apply pw_below_drewN | apply below_drew1) | exact HB.out)) hb); clear HB; have HO123 := n0_; have HB := n1_; clear n0_ n1_; clear hb ho3))
 go_loopg [3, 4] k (fun kq v3 v4 w' => ∃ (x3_1 : List (S55)) (x4_1 : Int), v4 = .int .i64 x4_1 ∧ Aside0 (supercargoref12_Content.l0 kq l0 x3_1 x4_1 = some r) ∧ Aside0 (kq ≤ k) ∧ Aside0 (Kd.R k55 55 w' w.heap.size (fun _ => True) v3 x3_1) ∧ Aside0 (Below w.heap.size w w'))
 case atStart => exact ⟨(y121), (0), (by first | rfl | (simp; done) | (simp [*]; done)), H', ⟨Nat.le_refl _⟩, ⟨by (with_reducible repeat (first | apply Kd.R_alloc | apply Kd.R_drewN | apply Kd.R_drew)); exact HO123.out⟩, ⟨by repeat (first | (with_reducible first | exact HB.out | apply below_alloc | apply pw_below_drewN | apply below_drew1) | exact HB.out)⟩⟩
 case round =>
  clear H'
  try clear p2
  try clear c3
  obtain ⟨x3_1, x4_1, rfl, HA, HK1, HO_3, HB⟩ := hrel
  cases gk with
  | zero => exact absurd HA.out (by simp [supercargoref12_Content.l0])
  | succ k1 =>
   have H := HA.out
   clear HA
   simp only [supercargoref12_Content.l0] at H
   by_cases c4 : x4_1 < (l0.length : Int)
   ·rw [if_pos c4] at H
    have c4b0 : decide (x4_1 < (l0.length : Int)) = true := decide_eq_true c4
    clear c4
    by_cases c5 : 0 ≤ x4_1
    ·rw [if_pos c5] at H
     have c5b0 : decide (0 ≤ x4_1) = true := decide_eq_true c5
     clear c5
     by_cases c6 : x3_1.length + ((rd_T44 l0 x4_1).f2).length < 5864062014805
     ·rw [if_pos c6] at H
      have LMc6 := Aside0.mk c6
      clear c6
      obtain ⟨y125, hy125⟩ : ∃ y_ : List (S55), y_ = (x3_1 ++ ((rd_T44 l0 x4_1).f2)) := ⟨_, rfl⟩
      replace H : (supercargoref12_Content.l0 k1 l0 y125 (wrap64 (x4_1 + 1))) = some r := by first | (rw [hy125]; with_reducible exact H) | (have H2_ := (Option.bind_some _ _).symm.trans H; rw [hy125]; with_reducible exact H2_) | (have H2_ := (Option.bind_some _ _).symm.trans H; with_reducible exact H2_) | with_reducible exact H | (rw [hy125]; exact H) | exact H
      have Ny125 := Aside0.mk hy125
      clear hy125
      have H' := Aside0.mk H
      clear H
      have p124 : 0 ≤ (x4_1 : Int) := of_decide_eq_true (by first | (with_reducible assumption) | assumption)
      have q124 : x4_1 < (l0.length : Int) := of_decide_eq_true (by first | (with_reducible assumption) | assumption)
      obtain ⟨ad124, A124_2, c124_2, e124, hx124_0, hx124_1, hx124_2, hl124_2, hi124_2⟩ := at_T44 HR0.out x4_1 p124 q124
      cases e124
      replace hx124_0 := (HB.out.cell (World.block_lt_of_cell? w _ hx124_0)).trans hx124_0
      replace hx124_1 := (HB.out.cell (World.block_lt_of_cell? w _ hx124_1)).trans hx124_1
      replace hx124_2 := (HB.out.cell (World.block_lt_of_cell? w _ hx124_2)).trans hx124_2
      have HR124_2 := Aside0.mk hi124_2
      have HC124_2 := Aside0.mk hl124_2
      clear hi124_2 hl124_2
      replace p124 := eq_true p124
      replace q124 := eq_true q124
      go_wp2_with (first | ((with_reducible refine gate_builtin (b := .append) (xs := #[.tmp 12, .tmp 17]) rfl ?_); at_builtin; refine Kd.R_append_rows k55 (w0 := w) w.heap.size rfl (.tmp 12) (.tmp 17) 35 55 (.agg #[(.string ⟨#[]⟩), (.int .i64 0)]) 24 rfl Tryz.underlying35 info55 rfl (by decide) (by omega) u3 x3_1 ((rd_T44 l0 x4_1).f2) _ _ _ (fun _ => True) (fun _ => False) rfl rfl ?aO ?aR (fun _ _ h => h) (fun _ h => h.elim) ?aF ?aB ?aS ?aL ?_; (case aR => repeat (first | exact (Kd.C_below HR124_2.out HB.out) | (with_reducible refine Kd.C_alloc ?_ _) | (with_reducible refine Kd.C_drewN ?_ _) | (with_reducible refine Kd.C_drew ?_))); (case aB => exact (by repeat (first | (with_reducible first | exact HB.out | apply below_alloc | apply pw_below_drewN | apply below_drew1) | exact HB.out))); (case aF => exact (fun _ _ => trivial)); (case aO => exact (by (with_reducible repeat (first | apply Kd.R_alloc | apply Kd.R_drewN | apply Kd.R_drew)); exact HO_3.out)); (case aS => exact (below_size (by repeat (first | (with_reducible first | exact HB.out | apply below_alloc | apply pw_below_drewN | apply below_drew1) | exact HB.out)))); (case aL => have := LMc6.out; omega); intro v126 w7 ho hb hg hat; rw [← Ny125.out] at ho; have n0_ := Aside0.mk (hb); have n1_ := Aside0.mk (ho); clear HB; clear HO_3; have HB := n0_; have HO127 := n1_; clear n0_ n1_; clear ho hb hg hat))
      go_roundg k1
      case measure => have := HK1.out; omega
      case rel => exact ⟨(y125), (wrap64 (x4_1 + 1)), (by first | rfl | (simp; done) | (simp [*]; done)), H', ⟨by have := HK1.out; omega⟩, ⟨by (with_reducible repeat (first | apply Kd.R_alloc | apply Kd.R_drewN | apply Kd.R_drew)); exact HO127.out⟩, ⟨by repeat (first | (with_reducible first | exact HB.out | apply below_alloc | apply pw_below_drewN | apply below_drew1) | exact HB.out)⟩⟩
     ·rw [if_neg c6] at H
      exact absurd H (by simp)
    ·rw [if_neg c5] at H
     exact absurd H (by simp)
   ·rw [if_neg c4] at H
    have c4b0 : decide (x4_1 < (l0.length : Int)) = false := decide_eq_false c4
    clear c4
    replace H := Option.bind_eq_some_iff.mp H
    obtain ⟨t128, A80, H⟩ := H
    replace H : (some t128) = some r := H
    have A8 := Aside0.mk A80
    clear A80
    obtain rfl := Option.some.inj H
    obtain ⟨Ao9, co9, eo9⟩ := Kd.R_slice HO_3.out
    subst eo9
    go_wp2_with (first | ((with_reducible refine gate_callee (f := 37) rfl ?_); refine goesL_ (some 20) rfl rfl Tryz.func37 (by kernel_rfl) rfl #[.slice Ao9 x3_1.length co9] rfl (by (try simp only [List.map_toArray, List.map_cons, List.map_nil]); first | done | rfl | (simp only [List.length_drop, List.length_take]; rfl)) ?_; (with_reducible refine (supercargoref11_Join.calls _ _ x3_1 t128 _ ?side1 ?side2 A8.out).mono ?_); (case side1 => repeat (first | exact (Kd.R_reads' HO_3.out).2.2 | (with_reducible refine Kd.C_alloc ?_ _) | (with_reducible refine Kd.C_drewN ?_ _) | (with_reducible refine Kd.C_drew ?_))); (case side2 => exact (Kd.R_reads' HO_3.out).2.1); rintro e w10 ⟨v129, rfl, ho0, hb⟩; refine ⟨_, rfl, ?_⟩; have n0_ := Aside0.mk (Kd.R_elder' (by (with_reducible repeat (first | apply Kd.R_alloc | apply Kd.R_drewN | apply Kd.R_drew)); exact HO_3.out) (Kd.R_base ho0) hb); have n1_ := Aside0.mk (Kd.R_lower (Kd.R_new' ho0 (Kd.R_lt (by (with_reducible repeat (first | apply Kd.R_alloc | apply Kd.R_drewN | apply Kd.R_drew)); exact HO_3.out))) (below_size (by repeat (first | (with_reducible first | exact HB.out | apply below_alloc | apply pw_below_drewN | apply below_drew1) | exact HB.out)))); have n2_ := Aside0.mk (below_step (by repeat (first | (with_reducible first | exact HB.out | apply below_alloc | apply pw_below_drewN | apply below_drew1) | exact HB.out)) hb); clear HO_3; clear HB; have HO_3 := n0_; have HO130 := n1_; have HB := n2_; clear n0_ n1_ n2_; (try clear hb); (try clear hb2); (try clear hk); (try clear hi); (try clear ho0)))
    go_ret
    exact ⟨_, by first | rfl | (simp [errW_none, errW_some] <;> rfl) | (simp [*, errW_none, errW_some] <;> rfl), by (with_reducible repeat (first | apply Kd.R_alloc | apply Kd.R_drewN | apply Kd.R_drew)); exact Kd.R_mono HO130.out (fun _ hk => trivial), by repeat (first | (with_reducible first | exact HB.out | apply below_alloc | apply pw_below_drewN | apply below_drew1) | exact HB.out)⟩
end Go.Proofs.YtfflbeenkfaemaaGreatDoor.X
namespace Go.Proofs.YtfflbeenkfaemaaGreatDoor.X
open Go.RowKit Go.Proofs.YtfflbeenkfaemaaGreatDoor.Ext Go.Proofs.YtfflbeenkfaemaaGreatDoorW.PrintWords Go.Proofs.YtfflbeenkfaemaaGreatDoorW.PrintLast Go.Proofs.YtfflbeenkfaemaaGreatDoorW.PrintMore
attribute [local go_sem] max2_int min2_int max_two min_two max_three min_three max_four min_four   -- for this text's walks alone
set_option linter.unusedVariables false
set_option linter.unusedSimpArgs false
theorem eqA55 (d : Nat) (w : World) (x0 y0 : ByteArray) (x1 y1 : Int) :
  (Op.equalIn (d + 2) 55 (.agg #[.string x0, .int .i64 x1]) (.agg #[.string y0, .int .i64 y1])).run Tryz.prog w = .ok (x0.toList == y0.toList && (x1 == y1)) w := by
 refine eqA_of Tryz.underlying55 (by kernel_rfl) ?_
 refine eqf_cons (by rfl) (by go_simp; rfl) (by go_simp; rfl) (by go_simp) ?_
 exact eqf_last (by rfl) (by go_simp; rfl) (by go_simp; rfl) (by go_simp)
end Go.Proofs.YtfflbeenkfaemaaGreatDoor.X
namespace Go.Proofs.YtfflbeenkfaemaaGreatDoor.X
open Go.RowKit Go.Proofs.YtfflbeenkfaemaaGreatDoor.Ext Go.Proofs.YtfflbeenkfaemaaGreatDoorW.PrintWords Go.Proofs.YtfflbeenkfaemaaGreatDoorW.PrintLast Go.Proofs.YtfflbeenkfaemaaGreatDoorW.PrintMore
attribute [local go_sem] max2_int min2_int max_two min_two max_three min_three max_four min_four   -- for this text's walks alone
set_option linter.unusedVariables false
set_option linter.unusedSimpArgs false
attribute [local go_sem high] eqA55
def supercargoref11_Same.l0 : Nat → List (S55) → List (S55) → Int → Option (Bool)
 | 0, _, _, _ => none
 | k + 1, x0, x1, x5 => if x5 < (x0.length : Int) then (if 0 ≤ x5 then (if x5 < (x1.length : Int) then (if (!((((rd_T55 x0 x5).f0).toList) == (((rd_T55 x1 x5).f0).toList)) || (!(((rd_T55 x0 x5).f1) == ((rd_T55 x1 x5).f1)))) = true then (some false) else (supercargoref11_Same.l0 k x0 x1 (wrap64 (x5 + 1)))) else (none)) else (none)) else (some true)
def supercargoref11_Same.f (k : Nat) (l0 : List (S55)) (l1 : List (S55)) : Option (Bool) := if (l0.length : Int) = (l1.length : Int) then (supercargoref11_Same.l0 k l0 l1 0) else (some false)
theorem supercargoref11_Same.mono_l : ∀ k, (∀ y0 y1 y2, LeO (supercargoref11_Same.l0 k y0 y1 y2) (supercargoref11_Same.l0 (k + 1) y0 y1 y2))
 | 0 => fun _ _ _ r h => by simp [supercargoref11_Same.l0] at h
 | k + 1 => by
  have ih0 := supercargoref11_Same.mono_l k
  ·intro y0 y1 y2
   unfold supercargoref11_Same.l0
   repeat' first
   | (with_reducible exact ih0 _ _ _)
   | (with_reducible exact LeO.refl _)
   | (with_reducible exact LeO.none _)
   | (with_reducible refine LeO.ite ?_ ?_)
   | (with_reducible refine LeO.bind ?_ (fun _ => ?_))
   | exact ih0 _ _ _
   | exact LeO.none _
   | refine LeO.ite ?_ ?_
   | refine LeO.bind ?_ (fun _ => ?_)
theorem supercargoref11_Same.mono : ∀ a0 a1 k, LeO (supercargoref11_Same.f k a0 a1) (supercargoref11_Same.f (k + 1) a0 a1) := by
 intro a0 a1 k
 have ih0 := supercargoref11_Same.mono_l k
 unfold supercargoref11_Same.f
 repeat' first
   | (with_reducible exact ih0 _ _ _)
   | (with_reducible exact LeO.refl _)
   | (with_reducible exact LeO.none _)
   | (with_reducible refine LeO.ite ?_ ?_)
   | (with_reducible refine LeO.bind ?_ (fun _ => ?_))
   | exact ih0 _ _ _
   | exact LeO.none _
   | refine LeO.ite ?_ ?_
   | refine LeO.bind ?_ (fun _ => ?_)
set_option maxHeartbeats 8000000 in
set_option maxRecDepth 100000 in
theorem supercargoref11_Same.calls (k : Nat) (A0 : Option Addr) (c0 : Nat) (l0 : List (S55)) (A1 : Option Addr) (c1 : Nat) (l1 : List (S55)) (r : Bool) (w : World) (hr0 : Kd.C k55 w A0 l0.length l0) (hc0 : l0.length ≤ c0) (hr1 : Kd.C k55 w A1 l1.length l1) (hc1 : l1.length ≤ c1) (h : supercargoref11_Same.f k l0 l1 = some r) :
  Calls Tryz.prog 33 #[.slice A0 l0.length c0, .slice A1 l1.length c1] w fun e w' => e = .returned (.bool r) ∧ Drawn0 w w' := by
 have hu55 := Tryz.underlying55
 have HR0 := Aside0.mk hr0
 have HC0 := Aside0.mk hc0
 clear hr0 hc0
 have HR1 := Aside0.mk hr1
 have HC1 := Aside0.mk hc1
 clear hr1 hc1
 have H : (if (l0.length : Int) = (l1.length : Int) then (supercargoref11_Same.l0 k l0 l1 0) else (some false)) = some r := h
 clear h
 by_cases c3 : (l0.length : Int) = (l1.length : Int)
 ·rw [if_pos c3] at H
  have c3b0 : ((l0.length : Int) == (l1.length : Int)) = true := beq_iff_eq.mpr c3
  have c3b1 : ((l0.length : Int) != (l1.length : Int)) = false := bne_eq_false_iff_eq.mpr c3
  have c3b2 : (l0.length == l1.length) = true := by first | simpa using c3 | (simp at c3 ⊢; omega)
  clear c3
  have H' := Aside0.mk H
  clear H
  go_enter Tryz.func33, Tryz.ntmps33
  go_wp2
  repeat (go_quiet (fail); try go_wp2)
  go_loopg [5] k (fun kq v5 w' => ∃ (x5_1 : Int), v5 = .int .i64 x5_1 ∧ Aside0 (supercargoref11_Same.l0 kq l0 l1 x5_1 = some r) ∧ Aside0 (kq ≤ k) ∧ Drawn0 w w')
  case atStart => exact ⟨(0), (by first | rfl | (simp; done) | (simp [*]; done)), H', ⟨Nat.le_refl _⟩, by repeat (first | exact Drawn0.refl _ | apply Drawn0.step)⟩
  case round =>
   clear H'
   try clear c1
   try clear p2
   try clear c3
   try clear c3b0
   try clear c3b1
   try clear c3b2
   obtain ⟨x5_1, rfl, HA, HK1, ⟨m1, rfl⟩⟩ := hrel
   cases gk with
   | zero => exact absurd HA.out (by simp [supercargoref11_Same.l0])
   | succ k1 =>
    have H := HA.out
    clear HA
    simp only [supercargoref11_Same.l0] at H
    by_cases c4 : x5_1 < (l0.length : Int)
    ·rw [if_pos c4] at H
     have c4b0 : decide (x5_1 < (l0.length : Int)) = true := decide_eq_true c4
     clear c4
     by_cases c5 : 0 ≤ x5_1
     ·rw [if_pos c5] at H
      have c5b0 : decide (0 ≤ x5_1) = true := decide_eq_true c5
      clear c5
      by_cases c6 : x5_1 < (l1.length : Int)
      ·rw [if_pos c6] at H
       have c6b0 : decide (x5_1 < (l1.length : Int)) = true := decide_eq_true c6
       clear c6
       by_cases c7 : (!((((rd_T55 l0 x5_1).f0).toList) == (((rd_T55 l1 x5_1).f0).toList)) || (!(((rd_T55 l0 x5_1).f1) == ((rd_T55 l1 x5_1).f1)))) = true
       ·rw [if_pos c7] at H
        have c7b0 : (!((((rd_T55 l0 x5_1).f0).toList) == (((rd_T55 l1 x5_1).f0).toList)) || (!(((rd_T55 l0 x5_1).f1) == ((rd_T55 l1 x5_1).f1)))) = true := c7
        clear c7
        obtain rfl := Option.some.inj H
        have p165 : 0 ≤ (x5_1 : Int) := of_decide_eq_true (by first | (with_reducible assumption) | assumption)
        have q165 : x5_1 < (l0.length : Int) := of_decide_eq_true (by first | (with_reducible assumption) | assumption)
        obtain ⟨ad165, e165, hx165_0, hx165_1⟩ := at_T55 HR0.out x5_1 p165 q165
        cases e165
        replace p165 := eq_true p165
        replace q165 := eq_true q165
        have p166 : 0 ≤ (x5_1 : Int) := of_decide_eq_true (by first | (with_reducible assumption) | assumption)
        have q166 : x5_1 < (l1.length : Int) := of_decide_eq_true (by first | (with_reducible assumption) | assumption)
        obtain ⟨ad166, e166, hx166_0, hx166_1⟩ := at_T55 HR1.out x5_1 p166 q166
        cases e166
        replace p166 := eq_true p166
        replace q166 := eq_true q166
        go_wp2
        repeat (go_quiet (fail); try go_wp2)
        go_ret
        exact ⟨by first | rfl | (simp; done) | (simp [*]; done), by repeat (first | exact Drawn0.refl _ | apply Drawn0.step)⟩
       ·rw [if_neg c7] at H
        have c7b0 : (!((((rd_T55 l0 x5_1).f0).toList) == (((rd_T55 l1 x5_1).f0).toList)) || (!(((rd_T55 l0 x5_1).f1) == ((rd_T55 l1 x5_1).f1)))) = false := by simpa using c7
        clear c7
        have H' := Aside0.mk H
        clear H
        have p165 : 0 ≤ (x5_1 : Int) := of_decide_eq_true (by first | (with_reducible assumption) | assumption)
        have q165 : x5_1 < (l0.length : Int) := of_decide_eq_true (by first | (with_reducible assumption) | assumption)
        obtain ⟨ad165, e165, hx165_0, hx165_1⟩ := at_T55 HR0.out x5_1 p165 q165
        cases e165
        replace p165 := eq_true p165
        replace q165 := eq_true q165
        have p166 : 0 ≤ (x5_1 : Int) := of_decide_eq_true (by first | (with_reducible assumption) | assumption)
        have q166 : x5_1 < (l1.length : Int) := of_decide_eq_true (by first | (with_reducible assumption) | assumption)
        obtain ⟨ad166, e166, hx166_0, hx166_1⟩ := at_T55 HR1.out x5_1 p166 q166
        cases e166
        replace p166 := eq_true p166
        replace q166 := eq_true q166
        go_wp2
        repeat (go_quiet (fail); try go_wp2)
        go_roundg k1
        case measure => have := HK1.out; omega
        case rel => exact ⟨(wrap64 (x5_1 + 1)), (by first | rfl | (simp; done) | (simp [*]; done)), H', ⟨by have := HK1.out; omega⟩, by repeat (first | exact Drawn0.refl _ | apply Drawn0.step)⟩
      ·rw [if_neg c6] at H
       exact absurd H (by simp)
     ·rw [if_neg c5] at H
      exact absurd H (by simp)
    ·rw [if_neg c4] at H
     have c4b0 : decide (x5_1 < (l0.length : Int)) = false := decide_eq_false c4
     clear c4
     obtain rfl := Option.some.inj H
     go_wp2
     repeat (go_quiet (fail); try go_wp2)
     go_ret
     exact ⟨by first | rfl | (simp; done) | (simp [*]; done), by repeat (first | exact Drawn0.refl _ | apply Drawn0.step)⟩
 ·rw [if_neg c3] at H
  have c3b0 : ((l0.length : Int) == (l1.length : Int)) = false := beq_eq_false_iff_ne.mpr c3
  have c3b1 : ((l0.length : Int) != (l1.length : Int)) = true := bne_iff_ne.mpr c3
  have c3b2 : (l0.length == l1.length) = false := by first | simpa using c3 | (simp at c3 ⊢; omega)
  obtain rfl := Option.some.inj H
  go_enter Tryz.func33, Tryz.ntmps33
  go_wp2
  repeat (go_quiet (fail); try go_wp2)
  go_ret
  exact ⟨by first | rfl | (simp; done) | (simp [*]; done), by repeat (first | exact Drawn0.refl _ | apply Drawn0.step)⟩
end Go.Proofs.YtfflbeenkfaemaaGreatDoor.X
