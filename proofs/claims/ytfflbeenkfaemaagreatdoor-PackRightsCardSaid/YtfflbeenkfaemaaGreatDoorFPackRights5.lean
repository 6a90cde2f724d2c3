/- One of the texts of this claim: RJoin, Fits, Mny, Fill. -/
import Derived.Test.YtfflbeenkfaemaaGreatDoorFPackRights4
namespace Go.Proofs.YtfflbeenkfaemaaGreatDoor.Ext
open Go.RowKit Go.Proofs.YtfflbeenkfaemaaGreatDoorW.PrintWords Go.Proofs.YtfflbeenkfaemaaGreatDoorW.PrintLast
def posB (out : List X.S55) (x : ByteArray) : Nat := (out.takeWhile fun y => Op.bytesLess y.f0.toList x.toList).length
def insB (out : List X.S55) (x : X.S55) : List X.S55 :=
 if posB out x.f0 < out.length ∧ (X.rd_T55 out (posB out x.f0 : Nat)).f0 = x.f0 then out.set (posB out x.f0) ⟨x.f0, wrap64 ((X.rd_T55 out (posB out x.f0 : Nat)).f1 + x.f1)⟩
 else out.take (posB out x.f0) ++ [x] ++ out.drop (posB out x.f0)
def rjStep (out : List X.S55) (x : X.S55) : List X.S55 := if x.f1 < 1 then out else insB out x
def rjoinB (l : List X.S55) : List X.S55 := l.foldl rjStep []
theorem rjoinB_next (l : List X.S55) (i : Nat) (h : i < l.length) : rjoinB (l.take (i + 1)) = rjStep (rjoinB (l.take i)) (X.rd_T55 l (i : Int)) := by
 have e : X.rd_T55 l (i : Int) = l[i] := by simp [X.rd_T55, List.getD, List.getElem?_eq_getElem h]
 rw [e]
 unfold rjoinB
 rw [List.take_add_one, List.getElem?_eq_getElem h, List.foldl_append]
 rfl
theorem posB_le (out : List X.S55) (x : ByteArray) : posB out x ≤ out.length := by
 unfold posB
 exact (List.takeWhile_sublist _).length_le
theorem rd_eq (l : List X.S55) (k : Nat) (h : k < l.length) : X.rd_T55 l (k : Int) = l[k] := by simp [X.rd_T55, List.getD, List.getElem?_eq_getElem h]
theorem posB_cons (y : X.S55) (out : List X.S55) (x : ByteArray) : posB (y :: out) x = if Op.bytesLess y.f0.toList x.toList = true then posB out x + 1 else 0 := by
 unfold posB
 rw [List.takeWhile_cons]
 by_cases h : Op.bytesLess y.f0.toList x.toList = true
 ·simp [h]
 ·simp [h]
theorem posB_lt (x : ByteArray) : ∀ (out : List X.S55) (k : Nat) (_ : k < posB out x) (hk : k < out.length), Op.bytesLess out[k].f0.toList x.toList = true
 | [], k, _, hk => by simp at hk
 | y :: out, k, h, hk => by
  rw [posB_cons] at h
  by_cases hy : Op.bytesLess y.f0.toList x.toList = true
  ·rw [if_pos hy] at h
   cases k with
   | zero => exact hy
   | succ k => exact posB_lt x out k (by omega) (by simpa using hk)
  ·rw [if_neg hy] at h; omega
theorem posB_at (x : ByteArray) : ∀ (out : List X.S55) (hk : posB out x < out.length), ¬ Op.bytesLess out[posB out x].f0.toList x.toList = true
 | [], hk => by simp at hk
 | y :: out, hk => by
  by_cases hy : Op.bytesLess y.f0.toList x.toList = true
  ·have e : posB (y :: out) x = posB out x + 1 := by rw [posB_cons, if_pos hy]
   simp only [e, List.getElem_cons_succ]
   exact posB_at x out (by rw [e] at hk; simpa using hk)
  ·have e : posB (y :: out) x = 0 := by rw [posB_cons, if_neg hy]
   simp only [e, List.getElem_cons_zero]
   exact hy
theorem insB_len (out : List X.S55) (x : X.S55) : (insB out x).length ≤ out.length + 1 := by
 have := posB_le out x.f0
 unfold insB
 split
 ·simp
 ·simp; omega
theorem rjoinB_len (l : List X.S55) : (rjoinB l).length ≤ l.length := by
 have : ∀ (l : List X.S55) (out : List X.S55), (l.foldl rjStep out).length ≤ out.length + l.length := by
  intro l
  induction l with
  | nil => intro out; simp
  | cons x l ih =>
   intro out
   have h1 := ih (rjStep out x)
   have h2 : (rjStep out x).length ≤ out.length + 1 := by
    unfold rjStep
    split
    ·omega
    ·exact insB_len out x
   simp only [List.foldl_cons, List.length_cons]
   omega
 simpa [rjoinB] using this l []
theorem bytes_eq {a b : ByteArray} (h : (a.toList == b.toList) = true) : a = b := by
 have h1 : a.toList = b.toList := by simpa using h
 rw [ByteArray.toList_eq, ByteArray.toList_eq] at h1
 exact ByteArray.ext (Array.toList_inj.1 h1)
theorem rj_hit (out : List X.S55) (x y : ByteArray) (n m : Int) (k : Nat) (hk : k = posB out x) (hko : k < out.length) (hrd : (⟨y, m⟩ : X.S55) = out[k]) (hyx : (y.toList == x.toList) = true) (hn : 1 ≤ n) : rjStep out ⟨x, n⟩ = out.set k ⟨y, wrap64 (m + n)⟩ := by
 have e := bytes_eq hyx
 subst e
 subst hk
 have hr := rd_eq out (posB out y) hko
 rw [← hrd] at hr
 unfold rjStep
 rw [if_neg (by show ¬ n < 1; omega)]
 unfold insB
 rw [if_pos ⟨hko, by rw [hr]⟩, hr]
theorem rj_miss (out : List X.S55) (x : ByteArray) (n : Int) (k : Nat) (hk : k = posB out x) (hno : ∀ h : k < out.length, (out[k].f0.toList == x.toList) = false) (hn : 1 ≤ n) : rjStep out ⟨x, n⟩ = out.take k ++ [⟨x, n⟩] ++ out.drop k := by
 subst hk
 unfold rjStep
 rw [if_neg (by show ¬ n < 1; omega)]
 unfold insB
 rw [if_neg]
 rintro ⟨h, e⟩
 have := hno h
 rw [rd_eq out _ h] at e
 rw [e] at this
 simp at this
theorem R_at_block {α : Type} {d : Kd α} {e base b : Nat} {w : World} {ok : Nat → Prop} {v : Value} {xs : List α} (h : d.R e w base ok v xs) (hb : v.ownBlock = some b) : ∃ cap, v = .slice (some ⟨b, 0, none⟩) xs.length cap := by
 obtain ⟨A, c, rfl⟩ := Kd.R_slice h
 obtain ⟨_, inner, hown, hr⟩ := h
 rcases hown.2 with ⟨hv, _⟩ | ⟨g, cap, cur, hv, _⟩
 ·injection hv with hA _ _
  subst hA
  simp [Value.ownBlock] at hb
 ·injection hv with hA _ _
  subst hA
  simp only [Value.ownBlock, Option.some.injEq] at hb
  subst hb
  exact ⟨_, rfl⟩
theorem add0 (g m : Nat) : (⟨g, 0, none⟩ : Addr).add m = ⟨g, m, none⟩ := by
 unfold Addr.add
 split
 ·rename_i h; subst h; rfl
 ·simp
theorem R_empty (W : World) : Kd.R X.k55 55 (W.alloc (.cells #[] 55)) W.heap.size (fun _ => True) (.slice (some ⟨W.heap.size, 0, none⟩) 0 0) [] :=
 ⟨fun _ _ => trivial, [], World.ownsRow_lit W #[] 0 (Nat.le_refl _) (Nat.zero_le _) (by simp), Reps.none _ _⟩
theorem C_one (w : World) (g : Nat) (x : ByteArray) (n : Int) (h0 : w.cell? ⟨g, 0, none⟩ = some (.string x)) (h1 : w.cell? ⟨g, 1, none⟩ = some (.int .i64 n)) : Kd.C X.k55 w (some ⟨g, 0, none⟩) 1 [(⟨x, n⟩ : X.S55)] := by
 refine ⟨rfl, by decide, fun _ => ⟨⟨g, 0, none⟩, rfl, fun j p hj => ⟨[.string p.f0, .int .i64 p.f1], rfl, X.k55_mk _ _, fun i u hu => ?_⟩⟩⟩
 have hj0 : j = 0 := by have := (List.getElem?_eq_some_iff.1 hj).1; simp at this; omega
 subst hj0
 obtain rfl : (⟨x, n⟩ : X.S55) = p := by simpa using hj
 have ha : (⟨g, 0, none⟩ : Addr).add (0 * X.k55.sz + i) = ⟨g, i, none⟩ := by rw [add0]; simp
 rw [ha]
 match i, hu with
 | 0, hu => cases hu; simpa using h0
 | 1, hu => cases hu; simpa using h1
 | (i + 2), hu => simp at hu
theorem take_C {e base n c k : Nat} {w w' : World} {ok : Nat → Prop} {A : Option Addr} {out : List X.S55} (h : Kd.R X.k55 e w base ok (.slice A n c) out) (hb : Below w.heap.size w w') (hk : k ≤ out.length) : Kd.C X.k55 w' A k (out.take k) := by
 have := Kd.C_below (Kd.C_take (Kd.R_reads' h).2.2 hk) hb
 rwa [List.length_take, Nat.min_eq_left hk] at this
theorem drop_C {e base n c k : Nat} {w w' : World} {ok : Nat → Prop} {A : Option Addr} {out : List X.S55} (h : Kd.R X.k55 e w base ok (.slice A n c) out) (hb : Below w.heap.size w w') (hk : k ≤ out.length) : Kd.C X.k55 w' (if c = k then A else A.map (·.add (k * 2))) (out.length - k) (out.drop k) := by
 have hc := (Kd.R_reads' h).2.1
 have hn := (Kd.R_reads' h).1
 have := Kd.C_below (Kd.C_drop (c := c) (Kd.R_reads' h).2.2 hk (by omega)) hb
 rwa [List.length_drop] at this
theorem own_after2 {v v' : Value} {b m : Nat} (h' : v'.ownBlock = some b) (h : v.ownBlock = v'.ownBlock ∨ ∃ b, v.ownBlock = some b ∧ m ≤ b) : ∃ b, v.ownBlock = some b := by
 rcases h with h | ⟨b, h, _⟩
 ·exact ⟨_, h.trans h'⟩
 ·exact ⟨b, h⟩
theorem own_after {v : Value} {g n c m : Nat} (h : v.ownBlock = (Value.slice (some ⟨g, 0, none⟩) n c).ownBlock ∨ ∃ b, v.ownBlock = some b ∧ m ≤ b) : ∃ b, v.ownBlock = some b := by
 rcases h with h | ⟨b, h, _⟩
 ·exact ⟨g, h⟩
 ·exact ⟨b, h⟩
theorem cell_grown {w w' : World} {g k : Nat} {p : Addr} {v : Value} (h : w.grownBy w' (some g)) (hc : w.cell? p = some v) (hk : p.block ≠ g) (_ : k = k) : w'.cell? p = some v := by
 have hlt := World.block_lt_of_cell? w _ hc
 have e := h.block p.block hlt (fun e => hk (by injection e))
 unfold World.cell? at hc ⊢
 rw [e]
 exact hc
theorem store_seg {α : Type} {d : Kd α} {W : World} {base : Nat} {e : TypeId} {g n cap : Nat} (i : Nat) (j : Nat) {xs : List α} (x' : α) (seg c : List Value) {ok : Nat → Prop} (okp : Nat → Prop)
  (HO : d.R e W base ok (.slice (some ⟨g, 0, none⟩) n cap) xs) (hi : i < n) (hcl : c.length = d.sz) (hcc : ∀ j u, c[j]? = some u → W.cell? ⟨g, i * d.sz + j, none⟩ = some u)
  (hj : j + seg.length ≤ d.sz) (hM : d.M W base okp x' (c.take j ++ seg ++ c.drop (j + seg.length))) (hokp : ∀ k, okp k → ok k ∧ k ≠ g) :
  d.R e (W.setCells g (i * d.sz + j) seg) base ok (.slice (some ⟨g, 0, none⟩) n cap) (xs.set i x') ∧ W.grownBy (W.setCells g (i * d.sz + j) seg) (some g) := by
 have := Kd.R_seg HO (i : Int) (by omega) (by omega) hcl (by simpa using hcc) hj hM hokp
 rwa [Int.toNat_natCast] at this
theorem store_run {α : Type} {d : Kd α} {P : Program} {W : World} {base : Nat} {o : Oper} {a : Act} {t : TypeId} {p x : Operand} (ho : o.op = .store t p x) {e : TypeId} {g n cap o' : Nat} (i : Nat) (j : Nat) {xs : List α} (x' : α) {u : Value} (seg c : List Value) {ok : Nat → Prop} (okp : Nat → Prop)
  (haddr : a.eval p = .pointer (some ⟨g, o', none⟩)) (hoff : o' = i * d.sz + j) (hx : a.eval x = u) (hu : u.cells.toList = seg) (ht : (P.info? t).map (·.size) = some seg.length) (h1 : ∀ q ∈ seg, q.oneCell' = true)
  (HO : d.R e W base ok (.slice (some ⟨g, 0, none⟩) n cap) xs) (hi : i < n) (hcl : c.length = d.sz) (hcc : ∀ j u, c[j]? = some u → W.cell? ⟨g, i * d.sz + j, none⟩ = some u)
  (hj : j + seg.length ≤ d.sz) (hM : d.M W base okp x' (c.take j ++ seg ++ c.drop (j + seg.length))) (hokp : ∀ k, okp k → ok k ∧ k ≠ g) :
  (execOp a.eval o).run P W = .ok .skip (W.setCells g (i * d.sz + j) seg) ∧ d.R e (W.setCells g (i * d.sz + j) seg) base ok (.slice (some ⟨g, 0, none⟩) n cap) (xs.set i x') ∧ W.grownBy (W.setCells g (i * d.sz + j) seg) (some g) := by
 subst hoff
 obtain ⟨hrow, hg⟩ := Kd.R_seg HO (i : Int) (by omega) (by omega) hcl (by simpa using hcc) hj hM hokp
 rw [Int.toNat_natCast] at hrow hg
 refine ⟨?_, hrow, hg⟩
 have hnx : n = xs.length := (Kd.R_reads' HO).1
 obtain ⟨_, inner, hown, hr⟩ := HO
 have hrun : (Instr.storeAt t (.pointer (some ⟨g, i * d.sz + j, none⟩)) u).run P W = .ok () (W.setCells g (i * d.sz + j) seg) := by
  rcases hown.2 with ⟨hv, _⟩ | ⟨g', cap', cur, hv, hb, hh, hnc, hcm, hcs, _⟩
  ·cases hv
  injection hv with ha _ hc
  injection ha with ha
  injection ha with hg'
  subst hg'; subst hc
  refine run_store_run t u seg hh hu ht ?_ h1
  have h2 : i * d.sz + d.sz ≤ n * d.sz := by rw [← Nat.succ_mul]; exact Nat.mul_le_mul_right _ hi
  have h3 : n * d.sz ≤ cap * d.sz := Nat.mul_le_mul_right _ (by omega)
  omega
 unfold execOp
 simp only [ho, haddr, hx, Sem.run_bind, Sem.run_pure, Result.andThen_ok, hrun]
set_option maxHeartbeats 4000000 in
set_option maxRecDepth 100000 in
theorem RJoin_any (A : Option Addr) (c : Nat) (l : List X.S55) (w : World) (hr : Kd.C X.k55 w A l.length l) (hl : l.length ≤ 100000) :
  Calls Tryz.prog 37 #[.slice A l.length c] w fun e w' => ∃ v : Value, e = .returned v ∧ Kd.R X.k55 55 w' w.heap.size (fun _ => True) v (rjoinB l) ∧ Below w.heap.size w w' := by
 go_enter Tryz.func37, Tryz.ntmps37
 go_wp2_with (first | ((with_reducible refine gate_dst (N := 6) rfl ?_); refine Kd.R_lit X.k55 _ 55 ?hg (N := 6) ?hd (xs := ([] : List X.S55)) (inner := []) (ok := fun _ => True) (okp := fun _ => True) ?hr ?hp (fun _ hk => hk) trivial (Below.refl _ _) (Nat.le_refl _) (by simp) ?_; (case hd => rfl); (case hg => rfl); (case hr => first | (go_simp; done) | (go_simp; rfl)); (case hp => exact (Reps.none _ _)); intro v0 w1 hO0 hB0 hg0 hn0; clear hg0))
 go_loopw [3, 4] (fun v3 v4 wr => ∃ i : Nat, i ≤ l.length ∧ v4 = .int .i64 i ∧ Kd.R X.k55 55 wr w.heap.size (fun _ => True) v3 (rjoinB (l.take i)) ∧ Below w.heap.size w wr ∧ (∃ b, v3.ownBlock = some b)) (fun _ v4 _ => l.length - (intOf v4).toNat)
 case atStart => exact ⟨0, by omega, rfl, hO0, hB0, hn0.imp fun _ h => h.1⟩
 case round =>
  obtain ⟨i, hi, rfl, hO, hB, b3, hb3⟩ := hrel
  have hol : (rjoinB (l.take i)).length ≤ 100000 := by have := rjoinB_len (l.take i); rw [List.length_take] at this; omega
  obtain ⟨c3, rfl⟩ := R_at_block hO hb3
  generalize hA3 : (⟨b3, 0, none⟩ : Addr) = ad3 at hO hb3 ⊢
  by_cases hlt : i < l.length
  ·obtain ⟨ad, eA, e0, e1⟩ := X.at_T55 hr (i : Int) (by omega) (by omega)
   subst eA
   have hnext := Lib.hid (rjoinB_next l i hlt)
   generalize X.rd_T55 l (i : Int) = z at e0 e1 hnext
   obtain ⟨x, n⟩ := z
   simp only [Int.toNat_natCast] at e0 e1
   have a0 := keepw hB e0
   have a1 := keepw hB e1
   clear e0 e1
   generalize rjoinB (l.take i) = out at hO hnext hol
   by_cases hn : n < 1
   ·go_wp2_with fail
    refine ⟨⟨i + 1, by omega, by simp, ?_, hB, _, hb3⟩, by simp [intOf]; omega⟩
    rw [hnext.out]
    show Kd.R X.k55 55 wr w.heap.size (fun _ => True) _ (if n < 1 then out else _)
    rw [if_pos hn]
    exact hO
   ·generalize hwo : wr = wo at *
    clear hwo
    go_wp2_with fail
    go_loopw [5] (fun v5 w2 => ∃ k : Nat, k ≤ posB out x ∧ v5 = .int .i64 k ∧ Below wo.heap.size wo w2) (fun v5 _ => out.length - (intOf v5).toNat)
    case atStart => exact ⟨0, by omega, rfl, Below.refl _ _⟩
    case round =>
     obtain ⟨k, hk, rfl, hB2⟩ := hrel
     have b0 := keepw hB2 a0
     have hO2 := Kd.R_below hO hB2
     have hC2 := (Kd.R_reads' hO2).2.2
     have hpl := posB_le out x
     by_cases hko : k < out.length
     ·obtain ⟨ad4, eA, f0, f1⟩ := X.at_T55 hC2 (k : Int) (by omega) (by omega)
      have eA' := Option.some.inj eA
      subst eA'
      clear eA
      simp only [Int.toNat_natCast] at f0 f1
      have hrd := Lib.hid (rd_eq out k hko)
      by_cases hkp : k < posB out x
      ·have hl1 := posB_lt x out k hkp hko
       rw [← hrd.out] at hl1
       generalize X.rd_T55 out (k : Int) = y at f0 f1 hrd hl1
       obtain ⟨y, m⟩ := y
       simp only at f0 f1 hl1
       go_wp2_with fail
       go_quiet (fail)
       go_wp2
       exact ⟨⟨k + 1, by omega, by simp, pw_below_drewN hB2 _⟩, by simp [intOf]; omega⟩
      ·have hkk : k = posB out x := by omega
       have hl1 : Op.bytesLess (X.rd_T55 out (k : Int)).f0.toList x.toList = false := by
        rw [hrd.out]
        subst hkk
        simpa using posB_at x out hko
       replace hkk := Lib.hid hkk
       generalize X.rd_T55 out (k : Int) = y at f0 f1 hrd hl1
       obtain ⟨y, m⟩ := y
       simp only at f0 f1 hl1
       obtain ⟨bq, hbq⟩ : ∃ bq, (y.toList == x.toList) = bq := ⟨_, rfl⟩
       cases bq
       rotate_left
       ·go_wp2_with fail
        go_quiet (fail)
        go_wp2
        have g0 := keepw (pw_below_drewN (Below.refl _ _) nq) f0
        have g1 := keepw (pw_below_drewN (Below.refl _ _) nq) f1
        have c0 := keepw (pw_below_drewN (Below.refl _ _) nq) b0
        have hB8 := pw_below_drewN hB2 nq
        generalize wr.drewN nq = W8 at g0 g1 c0 hB8 ⊢
        clear f0 f1 b0
        go_quiet (fail)
        go_wp2
        replace g0 := keepw (pw_below_drewN (Below.refl _ _) nq) g0
        replace g1 := keepw (pw_below_drewN (Below.refl _ _) nq) g1
        have hB9 := pw_below_drewN hB8 nq
        generalize W8.drewN nq = W9 at g0 g1 hB9 ⊢
        have q1 := keepw hB9 a1
        have hO9 := Kd.R_below hO hB9
        refine start_ (n := 16) (S := fun w' => w'.cell? ⟨(ad.add (i * 2)).block, (ad.add (i * 2)).off + 1, none⟩ = some (.int .i64 n) ∧ w'.cell? ⟨(ad3.add (k * 2)).block, (ad3.add (k * 2)).off + 1, none⟩ = some (.int .i64 m)) (ds := [15]) (bA 16 0) (by kernel_rfl) rfl rfl ?_ (fun hHeld => ?_)
        ·exact ⟨q1, g1⟩
        have hO10 := Kd.R_drew hO9
        have hB10 := below_drew hB9
        have g10 := keepw (below_drew (Below.refl _ _)) g0
        have g11 := keepw (below_drew (Below.refl _ _)) g1
        generalize W9.drew = W10 at hHeld hO10 hB10 g10 g11 ⊢
        refine pure_ (i := 0) (N := some 55) (v := ?_) (a' := ?_) (bA 16 1) rfl rfl (by kernel_rfl) (fun _ _ _ h => h) (Or.inl ⟨by rfl, ?_⟩) ?_ ?_
        rotate_left
        ·intro w'
         go_simp
         with_reducible rfl
        rotate_left
        ·simp only [Act.put, List.setIfInBounds_toArray, List.set_cons_zero, List.set_cons_succ]
         rfl
        refine pure_ (i := 1) (N := some 56) (v := ?_) (a' := ?_) (bA 16 3) rfl rfl (by kernel_rfl) (fun _ _ _ h => h) (Or.inl ⟨by rfl, ?_⟩) ?_ ?_
        rotate_left
        ·intro w'
         go_simp
         with_reducible rfl
        rotate_left
        ·simp only [Act.put, List.setIfInBounds_toArray, List.set_cons_zero, List.set_cons_succ]
         rfl
        refine pure_ (i := 2) (N := some 57) (v := ?_) (a' := ?_) (bA 16 7) rfl rfl (by kernel_rfl) (fun _ _ _ h => h) (Or.inl ⟨by rfl, ?_⟩) ?_ ?_
        rotate_left
        ·intro w'
         go_simp
         with_reducible rfl
        rotate_left
        ·simp only [Act.put, List.setIfInBounds_toArray, List.set_cons_zero, List.set_cons_succ]
         rfl
        refine pure_ (i := 3) (N := some 58) (v := ?_) (a' := ?_) (bA 16 15) rfl rfl (by kernel_rfl) (fun _ _ _ h => h) (Or.inl ⟨by rfl, ?_⟩) ?_ ?_
        rotate_left
        ·intro w'
         go_simp
         with_reducible rfl
        rotate_left
        ·simp only [Act.put, List.setIfInBounds_toArray, List.set_cons_zero, List.set_cons_succ]
         rfl
        refine pure_ (i := 4) (N := some 59) (v := ?_) (a' := ?_) (bA 16 31) rfl rfl (by kernel_rfl) (fun _ _ _ h => h) (Or.inl ⟨by rfl, ?_⟩) ?_ ?_
        rotate_left
        ·intro w'
         go_simp
         with_reducible rfl
        rotate_left
        ·simp only [Act.put, List.setIfInBounds_toArray, List.set_cons_zero, List.set_cons_succ]
         rfl
        refine pure_ (i := 5) (N := some 60) (v := ?_) (a' := ?_) (bA 16 63) rfl rfl (by kernel_rfl) (fun _ _ _ h => h) (Or.inl ⟨by rfl, ?_⟩) ?_ ?_
        rotate_left
        ·intro w'
         go_simp
         with_reducible rfl
        rotate_left
        ·simp only [Act.put, List.setIfInBounds_toArray, List.set_cons_zero, List.set_cons_succ]
         rfl
        refine take_ (i := 6) (N := some 61) (v := ?_) (a' := ?_) (bA 16 127) rfl rfl (by kernel_rfl) (fun _ _ _ h => h) (Or.inl ⟨by rfl, ?_⟩) hHeld ?_ ?_
        rotate_left
        ·rintro w' ⟨s0, s1⟩
         go_simp
         with_reducible rfl
        rotate_left
        ·simp only [Act.put, List.setIfInBounds_toArray, List.set_cons_zero, List.set_cons_succ]
         rfl
        refine pure_ (i := 7) (N := some 62) (v := ?_) (a' := ?_) (bA 16 255) rfl rfl (by kernel_rfl) (fun _ _ _ h => h) (Or.inl ⟨by rfl, ?_⟩) ?_ ?_
        rotate_left
        ·intro w'
         go_simp
         with_reducible rfl
        rotate_left
        ·simp only [Act.put, List.setIfInBounds_toArray, List.set_cons_zero, List.set_cons_succ]
         rfl
        refine pure_ (i := 8) (N := some 63) (v := ?_) (a' := ?_) (bA 16 511) rfl rfl (by kernel_rfl) (fun _ _ _ h => h) (Or.inl ⟨by rfl, ?_⟩) ?_ ?_
        rotate_left
        ·intro w'
         go_simp
         with_reducible rfl
        rotate_left
        ·simp only [Act.put, List.setIfInBounds_toArray, List.set_cons_zero, List.set_cons_succ]
         rfl
        refine pure_ (i := 9) (N := some 64) (v := ?_) (a' := ?_) (bA 16 1023) rfl rfl (by kernel_rfl) (fun _ _ _ h => h) (Or.inl ⟨by rfl, ?_⟩) ?_ ?_
        rotate_left
        ·intro w'
         go_simp
         with_reducible rfl
        rotate_left
        ·simp only [Act.put, List.setIfInBounds_toArray, List.set_cons_zero, List.set_cons_succ]
         rfl
        refine pure_ (i := 10) (N := some 65) (v := ?_) (a' := ?_) (bA 16 2047) rfl rfl (by kernel_rfl) (fun _ _ _ h => h) (Or.inl ⟨by rfl, ?_⟩) ?_ ?_
        rotate_left
        ·intro w'
         go_simp
         with_reducible rfl
        rotate_left
        ·simp only [Act.put, List.setIfInBounds_toArray, List.set_cons_zero, List.set_cons_succ]
         rfl
        refine take_ (i := 11) (N := some 66) (v := ?_) (a' := ?_) (bA 16 4095) rfl rfl (by kernel_rfl) (fun _ _ _ h => h) (Or.inl ⟨by rfl, ?_⟩) hHeld ?_ ?_
        rotate_left
        ·rintro w' ⟨s0, s1⟩
         go_simp
         with_reducible rfl
        rotate_left
        ·simp only [Act.put, List.setIfInBounds_toArray, List.set_cons_zero, List.set_cons_succ]
         rfl
        refine pure_ (i := 12) (N := some 67) (v := ?_) (a' := ?_) (bA 16 8191) rfl rfl (by kernel_rfl) (fun _ _ _ h => h) (Or.inl ⟨by rfl, ?_⟩) ?_ ?_
        rotate_left
        ·intro w'
         go_simp
         with_reducible rfl
        rotate_left
        ·simp only [Act.put, List.setIfInBounds_toArray, List.set_cons_zero, List.set_cons_succ]
         rfl
        refine pure_ (i := 13) (N := some 68) (v := ?_) (a' := ?_) (bA 16 16383) rfl rfl (by kernel_rfl) (fun _ _ _ h => h) (Or.inl ⟨by rfl, ?_⟩) ?_ ?_
        rotate_left
        ·intro w'
         go_simp
         with_reducible rfl
        rotate_left
        ·simp only [Act.put, List.setIfInBounds_toArray, List.set_cons_zero, List.set_cons_succ]
         rfl
        refine pure_ (i := 14) (N := some 69) (v := ?_) (a' := ?_) (bA 16 32767) rfl rfl (by kernel_rfl) (fun _ _ _ h => h) (Or.inl ⟨by rfl, ?_⟩) ?_ ?_
        rotate_left
        ·intro w'
         go_simp
         with_reducible rfl
        rotate_left
        ·simp only [Act.put, List.setIfInBounds_toArray, List.set_cons_zero, List.set_cons_succ]
         rfl
        obtain ⟨g3, cap3, ev, hg3, _⟩ := Kd.R_form hO10 (by omega)
        cases ev
        simp only [add0] at g10 g11 ⊢
        have hst := fun (o : Oper) (a : Act) h1 h2 h3 => store_run (d := X.k55) (P := Tryz.prog) (o := o) (a := a) (t := 3) (p := .tmp 69) (x := .tmp 67) (u := .int .i64 (wrap64 (m + n))) (o' := k * 2 + 1) h1 k 1 (⟨y, wrap64 (m + n)⟩ : X.S55) [.int .i64 (wrap64 (m + n))] [.string y, .int .i64 m] (fun _ => False) h2 rfl h3 rfl (by kernel_rfl) (by intro q hq; simp at hq; subst hq; rfl) hO10 hko rfl (fun j u hu => by match j, hu with | 0, hu => cases hu; exact g10 | 1, hu => cases hu; exact g11 | (j + 2), hu => simp at hu) (Nat.le_refl _) (X.k55_mkM _ _ _ (⟨y, wrap64 (m + n)⟩ : X.S55)) (fun _ hk => hk.elim)
        refine last_ (i := 15) (N := none) (bA 16 65535) rfl rfl (by kernel_rfl) (by decide) (fun K hK => ?_)
        refine skip_ rfl rfl (hst _ _ rfl rfl (by rw [← i64_w]; rfl)).1 ?_
        refine hK.out _ _ ?_
        clear hK K hst
        refine done_ (by kernel_rfl) ?_
        obtain ⟨hRw, hgr⟩ := store_seg k 1 (⟨y, wrap64 (m + n)⟩ : X.S55) [.int .i64 (wrap64 (m + n))] [.string y, .int .i64 m] (fun _ => False) hO10 hko rfl (fun j u hu => by match j, hu with | 0, hu => cases hu; exact g10 | 1, hu => cases hu; exact g11 | (j + 2), hu => simp at hu) (Nat.le_refl _) (X.k55_mkM _ _ _ (⟨y, wrap64 (m + n)⟩ : X.S55)) (fun _ hk => hk.elim)
        have hBe : Below w.heap.size w (W10.setCells g3 (k * X.k55.sz + 1) [.int .i64 (wrap64 (m + n))]) := (hB.trans (hB10.mono hB.size)).grown hgr (by have := hB.size; have := hB10.size; omega) (fun j hj => by cases hj; exact hg3)
        generalize W10.setCells g3 (k * X.k55.sz + 1) [.int .i64 (wrap64 (m + n))] = WE at hRw hBe ⊢
        go_wp2_with fail
        refine ⟨⟨i + 1, by omega, by simp, ?_, hBe, _, rfl⟩, by simp [intOf]; omega⟩
        rw [hnext.out, rj_hit out x y n m k hkk.out hko hrd.out hbq hn]
        exact hRw
       ·go_wp2_with fail
        go_quiet (fail)
        go_wp2
        have g0 := keepw (pw_below_drewN (Below.refl _ _) nq) f0
        have c0 := keepw (pw_below_drewN (Below.refl _ _) nq) b0
        have hB8 := pw_below_drewN hB2 nq
        generalize wr.drewN nq = W8 at g0 c0 hB8 ⊢
        clear f0 f1 b0
        go_quiet (fail)
        go_wp2
        have hB9 := pw_below_drewN hB8 nq
        generalize W8.drewN nq = W9 at hB9 ⊢
        have q0 := keepw hB9 a0
        have q1 := keepw hB9 a1
        have hO9 := Kd.R_below hO hB9
        have hmiss := rj_miss out x n k hkk.out (fun h => by rw [← hrd.out]; exact hbq) hn
        refine start_ (n := 16) (S := fun w' => w'.cell? (ad.add (i * 2)) = some (.string x) ∧ w'.cell? ⟨(ad.add (i * 2)).block, (ad.add (i * 2)).off + 1, none⟩ = some (.int .i64 n)) (ds := []) (bA 16 0) (by kernel_rfl) rfl rfl ?_ (fun hHeld => ?_)
        ·exact ⟨q0, q1⟩
        have hO10 := Kd.R_drew hO9
        have hB10 := below_drew hB9
        generalize W9.drew = W10 at hHeld hO10 hB10 ⊢
        have hcap : out.length ≤ c3 := (Kd.R_reads' hO10).2.1
        have hkl : k ≤ out.length := by omega
        have hkc : k ≤ c3 := by omega
        refine pure_ (i := 1) (N := some 71) (v := ?_) (a' := ?_) (bA 16 2) rfl rfl (by kernel_rfl) (fun _ _ _ h => h) (Or.inl ⟨by rfl, ?_⟩) ?_ ?_
        rotate_left
        ·intro w'
         go_simp
         with_reducible rfl
        rotate_left
        ·simp only [Act.put, List.setIfInBounds_toArray, List.set_cons_zero, List.set_cons_succ]
         rfl
        refine pure_ (i := 2) (N := some 72) (v := ?_) (a' := ?_) (bA 16 6) rfl rfl (by kernel_rfl) (fun _ _ _ h => h) (Or.inl ⟨by rfl, ?_⟩) ?_ ?_
        rotate_left
        ·intro w'
         go_simp
         with_reducible rfl
        rotate_left
        ·simp only [Act.put, List.setIfInBounds_toArray, List.set_cons_zero, List.set_cons_succ]
         rfl
        refine pure_ (i := 3) (N := some 73) (v := ?_) (a' := ?_) (bA 16 14) rfl rfl (by kernel_rfl) (fun _ _ _ h => h) (Or.inl ⟨by rfl, ?_⟩) ?_ ?_
        rotate_left
        ·intro w'
         go_simp
         with_reducible rfl
        rotate_left
        ·simp only [Act.put, List.setIfInBounds_toArray, List.set_cons_zero, List.set_cons_succ]
         rfl
        refine pure_ (i := 5) (N := some 75) (v := ?_) (a' := ?_) (bA 16 46) rfl rfl (by kernel_rfl) (fun _ _ _ h => h) (Or.inl ⟨by rfl, ?_⟩) ?_ ?_
        rotate_left
        ·intro w'
         go_simp
         with_reducible rfl
        rotate_left
        ·simp only [Act.put, List.setIfInBounds_toArray, List.set_cons_zero, List.set_cons_succ]
         rfl
        refine pure_ (i := 6) (N := some 76) (v := ?_) (a' := ?_) (bA 16 110) rfl rfl (by kernel_rfl) (fun _ _ _ h => h) (Or.inl ⟨by rfl, ?_⟩) ?_ ?_
        rotate_left
        ·intro w'
         go_simp
         with_reducible rfl
        rotate_left
        ·simp only [Act.put, List.setIfInBounds_toArray, List.set_cons_zero, List.set_cons_succ]
         rfl
        refine pure_ (i := 7) (N := some 77) (v := ?_) (a' := ?_) (bA 16 238) rfl rfl (by kernel_rfl) (fun _ _ _ h => h) (Or.inl ⟨by rfl, ?_⟩) ?_ ?_
        rotate_left
        ·intro w'
         go_simp
         with_reducible rfl
        rotate_left
        ·simp only [Act.put, List.setIfInBounds_toArray, List.set_cons_zero, List.set_cons_succ]
         rfl
        refine take_ (i := 8) (N := some 78) (v := ?_) (a' := ?_) (bA 16 494) rfl rfl (by kernel_rfl) (fun _ _ _ h => h) (Or.inl ⟨by rfl, ?_⟩) hHeld ?_ ?_
        rotate_left
        ·rintro w' ⟨s0, s1⟩
         go_simp
         with_reducible rfl
        rotate_left
        ·simp only [Act.put, List.setIfInBounds_toArray, List.set_cons_zero, List.set_cons_succ]
         rfl
        refine pure_ (i := 11) (N := some 81) (v := ?_) (a' := ?_) (bA 16 2542) rfl rfl (by kernel_rfl) (fun _ _ _ h => h) (Or.inl ⟨by rfl, ?_⟩) ?_ ?_
        rotate_left
        ·intro w'
         go_simp
         with_reducible rfl
        rotate_left
        ·simp only [Act.put, List.setIfInBounds_toArray, List.set_cons_zero, List.set_cons_succ]
         rfl
        refine pure_ (i := 12) (N := some 82) (v := ?_) (a' := ?_) (bA 16 6638) rfl rfl (by kernel_rfl) (fun _ _ _ h => h) (Or.inl ⟨by rfl, ?_⟩) ?_ ?_
        rotate_left
        ·intro w'
         go_simp
         with_reducible rfl
        rotate_left
        ·simp only [Act.put, List.setIfInBounds_toArray, List.set_cons_zero, List.set_cons_succ]
         rfl
        refine pure_ (i := 13) (N := some 83) (v := ?_) (a' := ?_) (bA 16 14830) rfl rfl (by kernel_rfl) (fun _ _ _ h => h) (Or.inl ⟨by rfl, ?_⟩) ?_ ?_
        rotate_left
        ·intro w'
         go_simp
         with_reducible rfl
        rotate_left
        ·simp only [Act.put, List.setIfInBounds_toArray, List.set_cons_zero, List.set_cons_succ]
         rfl
        have hH10 := hHeld
        refine join_ (σ := Nat × Value × Nat) 3 (bA 16 15359) (fun s_ => [(70, .slice (some ⟨s_.1, 0, none⟩) 0 0), (74, s_.2.1), (79, .slice (some ⟨s_.2.2, 0, none⟩) 1 1)]) (fun s_ w' => Kd.R X.k55 55 w' W10.heap.size (fun _ => True) s_.2.1 (out.take k) ∧ (∃ b, s_.2.1.ownBlock = some b) ∧ Below W10.heap.size W10 w' ∧ w'.cell? ⟨s_.2.2, 0, none⟩ = some (.string x) ∧ w'.cell? ⟨s_.2.2, 1, none⟩ = some (.int .i64 n)) ?_ ?_
        rotate_left
        ·intro hCont
         refine two_ (i := 0) (j := 9) (Ni := some 70) (Nj := some 79) (bA 16 14831) (bA 16 15342) rfl rfl rfl rfl (by kernel_rfl) (by decide) (by decide) (fun K hK => ?_) (fun K hK => ?_)
         ·refine value_ (by rfl) rfl (by go_simp; first | done | exact ⟨rfl, rfl⟩ | rfl) ?_
          have hE := R_empty W10
          have hBWa : Below W10.heap.size W10 (W10.alloc (.cells #[] 55)) := (Below.refl W10.heap.size W10).alloc (Below.refl W10.heap.size W10).size _
          have hUWa : Below W10.heap.size W10 (W10.alloc (.cells #[] 55)) := below_alloc (Below.refl _ _) _
          have hBWa_lt : W10.heap.size < (W10.alloc (.cells #[] 55)).heap.size := by simp
          generalize W10.alloc (.cells #[] 55) = Wa at hE hBWa hUWa hBWa_lt ⊢
          refine hK.out _ _ ⟨keepw hBWa hH10.1, keepw hBWa hH10.2⟩ (fun hHeld => ?_)
          clear hK K
          refine norm_ (a' := ?_) ?_ ?_
          rotate_left
          ·show Act.put _ (some 70) _ = _
           simp only [Act.put, List.setIfInBounds_toArray, List.set_cons_zero, List.set_cons_succ]
           rfl
          refine two_ (i := 4) (j := 9) (Ni := some 74) (Nj := some 79) (bA 16 14847) (bA 16 15343) rfl rfl rfl rfl (by kernel_rfl) (by decide) (by decide) (fun K hK => ?_) (fun K hK => ?_)
          ·refine Kd.R_append_rows_step X.k55 (w0 := W10) W10.heap.size (by rfl) (.tmp 70) (.tmp 73) 35 55 (.agg #[.string ⟨#[]⟩, .int .i64 0]) 24 rfl Tryz.underlying35 X.info55 rfl (by decide) (by omega) _ [] (out.take k) _ k _ (fun _ => True) (fun _ => False) rfl rfl (hE) (take_C hO10 (hBWa) hkl) (fun _ _ h => h) (fun _ h => h.elim) (fun _ _ => trivial) (hBWa) (hBWa).size (by simp; omega) ?_
           intro vWb Wb hOWb hBWb hgWb htWb
           refine hK.out _ _ ⟨keepw hBWb hH10.1, keepw hBWb hH10.2⟩ (fun hHeld => ?_)
           clear hK K
           refine norm_ (a' := ?_) ?_ ?_
           rotate_left
           ·show Act.put _ (some 74) _ = _
            simp only [Act.put, List.setIfInBounds_toArray, List.set_cons_zero, List.set_cons_succ]
            rfl
           refine one_ (i := 9) (N := some 79) (bA 16 15359) rfl rfl (by kernel_rfl) (by decide) (fun K hK => ?_)
           refine value_ (by rfl) rfl (by go_simp; first | done | exact ⟨rfl, rfl⟩ | rfl) ?_
           have hkWc := blk_new Wb (.cells #[.string x, .int .i64 n] 55)
           have hBWc : Below W10.heap.size W10 (Wb.alloc (.cells #[.string x, .int .i64 n] 55)) := (hBWb).alloc (hBWb).size _
           have hUWc : Below Wb.heap.size Wb (Wb.alloc (.cells #[.string x, .int .i64 n] 55)) := below_alloc (Below.refl _ _) _
           generalize Wb.alloc (.cells #[.string x, .int .i64 n] 55) = Wc at hkWc hBWc hUWc ⊢
           refine hK.out _ _ ⟨keepw hBWc hH10.1, keepw hBWc hH10.2⟩ (fun hHeld => ?_)
           exact norm_ (by show Act.put _ (some 79) _ = _; simp only [putAll, Act.put, List.setIfInBounds_toArray, List.set_cons_zero, List.set_cons_succ]) (hCont (W10.heap.size, vWb, Wb.heap.size) _ ⟨Kd.R_below (by simpa using hOWb) hUWc, own_after htWb, hBWc, (blk_cell hkWc 0).trans rfl, (blk_cell hkWc 1).trans rfl⟩)
          ·refine value_ (by rfl) rfl (by go_simp; first | done | exact ⟨rfl, rfl⟩ | rfl) ?_
           have hkWb := blk_new Wa (.cells #[.string x, .int .i64 n] 55)
           have hBWb : Below W10.heap.size W10 (Wa.alloc (.cells #[.string x, .int .i64 n] 55)) := (hBWa).alloc (hBWa).size _
           have hUWb : Below Wa.heap.size Wa (Wa.alloc (.cells #[.string x, .int .i64 n] 55)) := below_alloc (Below.refl _ _) _
           generalize Wa.alloc (.cells #[.string x, .int .i64 n] 55) = Wb at hkWb hBWb hUWb ⊢
           refine hK.out _ _ ⟨keepw hBWb hH10.1, keepw hBWb hH10.2⟩ (fun hHeld => ?_)
           clear hK K
           refine norm_ (a' := ?_) ?_ ?_
           rotate_left
           ·show Act.put _ (some 79) _ = _
            simp only [Act.put, List.setIfInBounds_toArray, List.set_cons_zero, List.set_cons_succ]
            rfl
           refine one_ (i := 4) (N := some 74) (bA 16 15359) rfl rfl (by kernel_rfl) (by decide) (fun K hK => ?_)
           refine Kd.R_append_rows_step X.k55 (w0 := W10) W10.heap.size (by rfl) (.tmp 70) (.tmp 73) 35 55 (.agg #[.string ⟨#[]⟩, .int .i64 0]) 24 rfl Tryz.underlying35 X.info55 rfl (by decide) (by omega) _ [] (out.take k) _ k _ (fun _ => True) (fun _ => False) rfl rfl (Kd.R_below hE hUWb) (take_C hO10 (hBWb) hkl) (fun _ _ h => h) (fun _ h => h.elim) (fun _ _ => trivial) (hBWb) (hBWb).size (by simp; omega) ?_
           intro vWc Wc hOWc hBWc hgWc htWc
           have hne : W10.heap.size < Wa.heap.size := hBWa_lt
           refine hK.out _ _ ⟨keepw hBWc hH10.1, keepw hBWc hH10.2⟩ (fun hHeld => ?_)
           exact norm_ (by show Act.put _ (some 74) _ = _; simp only [putAll, Act.put, List.setIfInBounds_toArray, List.set_cons_zero, List.set_cons_succ]) (hCont (W10.heap.size, vWc, Wa.heap.size) _ ⟨by simpa using hOWc, own_after htWc, hBWc, cell_grown (k := 0) hgWc ((blk_cell hkWb 0).trans rfl) (Nat.ne_of_gt hne) rfl, cell_grown (k := 0) hgWc ((blk_cell hkWb 1).trans rfl) (Nat.ne_of_gt hne) rfl⟩)
         ·refine value_ (by rfl) rfl (by go_simp; first | done | exact ⟨rfl, rfl⟩ | rfl) ?_
          have hkWa := blk_new W10 (.cells #[.string x, .int .i64 n] 55)
          have hBWa : Below W10.heap.size W10 (W10.alloc (.cells #[.string x, .int .i64 n] 55)) := (Below.refl W10.heap.size W10).alloc (Below.refl W10.heap.size W10).size _
          have hUWa : Below W10.heap.size W10 (W10.alloc (.cells #[.string x, .int .i64 n] 55)) := below_alloc (Below.refl _ _) _
          generalize W10.alloc (.cells #[.string x, .int .i64 n] 55) = Wa at hkWa hBWa hUWa ⊢
          refine hK.out _ _ ⟨keepw hBWa hH10.1, keepw hBWa hH10.2⟩ (fun hHeld => ?_)
          clear hK K
          refine norm_ (a' := ?_) ?_ ?_
          rotate_left
          ·show Act.put _ (some 79) _ = _
           simp only [Act.put, List.setIfInBounds_toArray, List.set_cons_zero, List.set_cons_succ]
           rfl
          refine one_ (i := 0) (N := some 70) (bA 16 15343) rfl rfl (by kernel_rfl) (by decide) (fun K hK => ?_)
          refine value_ (by rfl) rfl (by go_simp; first | done | exact ⟨rfl, rfl⟩ | rfl) ?_
          have hE := R_empty Wa
          have hBWb : Below W10.heap.size W10 (Wa.alloc (.cells #[] 55)) := (hBWa).alloc (hBWa).size _
          have hUWb : Below Wa.heap.size Wa (Wa.alloc (.cells #[] 55)) := below_alloc (Below.refl _ _) _
          have hBWb_lt : Wa.heap.size < (Wa.alloc (.cells #[] 55)).heap.size := by simp
          generalize Wa.alloc (.cells #[] 55) = Wb at hE hBWb hUWb hBWb_lt ⊢
          refine hK.out _ _ ⟨keepw hBWb hH10.1, keepw hBWb hH10.2⟩ (fun hHeld => ?_)
          clear hK K
          refine norm_ (a' := ?_) ?_ ?_
          rotate_left
          ·show Act.put _ (some 70) _ = _
           simp only [Act.put, List.setIfInBounds_toArray, List.set_cons_zero, List.set_cons_succ]
           rfl
          refine one_ (i := 4) (N := some 74) (bA 16 15359) rfl rfl (by kernel_rfl) (by decide) (fun K hK => ?_)
          refine Kd.R_append_rows_step X.k55 (w0 := W10) W10.heap.size (by rfl) (.tmp 70) (.tmp 73) 35 55 (.agg #[.string ⟨#[]⟩, .int .i64 0]) 24 rfl Tryz.underlying35 X.info55 rfl (by decide) (by omega) _ [] (out.take k) _ k _ (fun _ => True) (fun _ => False) rfl rfl (Kd.R_lower hE hBWa.size) (take_C hO10 (hBWb) hkl) (fun _ _ h => h) (fun _ h => h.elim) (fun _ _ => trivial) (hBWb) (hBWb).size (by simp; omega) ?_
          intro vWc Wc hOWc hBWc hgWc htWc
          have hne : W10.heap.size ≠ Wa.heap.size := Nat.ne_of_lt (blk_lt hkWa)
          refine hK.out _ _ ⟨keepw hBWc hH10.1, keepw hBWc hH10.2⟩ (fun hHeld => ?_)
          exact norm_ (by show Act.put _ (some 74) _ = _; simp only [putAll, Act.put, List.setIfInBounds_toArray, List.set_cons_zero, List.set_cons_succ]) (hCont (Wa.heap.size, vWc, W10.heap.size) _ ⟨by simpa using hOWc, own_after htWc, hBWc, cell_grown (k := 0) hgWc (keepw hUWb ((blk_cell hkWa 0).trans rfl)) hne rfl, cell_grown (k := 0) hgWc (keepw hUWb ((blk_cell hkWa 1).trans rfl)) hne rfl⟩)
        rintro ⟨b70, v74, b79⟩ WJ ⟨hOJ, ⟨bJ, hbJ⟩, hBJ, j0, j1⟩
        replace hOJ : Kd.R X.k55 55 WJ W10.heap.size (fun _ => True) v74 (out.take k) := hOJ
        replace hbJ : v74.ownBlock = some bJ := hbJ
        obtain ⟨cJ, eJ⟩ := R_at_block hOJ hbJ
        refine norm_ (a' := ?_) ?_ ?_
        rotate_left
        ·simp only [putAll, Act.put, List.setIfInBounds_toArray, List.set_cons_zero, List.set_cons_succ]
         rfl
        refine one_ (i := 10) (N := some 80) (bA 16 16383) rfl rfl (by kernel_rfl) (by decide) (fun K hK => ?_)
        refine Kd.R_append_rows_step X.k55 (w0 := W10) W10.heap.size (by rfl) (.tmp 74) (.tmp 79) 35 55 (.agg #[.string ⟨#[]⟩, .int .i64 0]) 24 rfl Tryz.underlying35 X.info55 rfl (by decide) (by omega) v74 (out.take k) [(⟨x, n⟩ : X.S55)] _ 1 _ (fun _ => True) (fun _ => False) rfl rfl (hOJ) (C_one WJ b79 x n j0 j1) (fun _ _ h => h) (fun _ h => h.elim) (fun _ _ => trivial) (hBJ) (hBJ).size (by simp; omega) ?_
        intro vWK WK hOWK hBWK hgWK htWK
        refine hK.out _ _ ⟨keepw hBWK hH10.1, keepw hBWK hH10.2⟩ (fun hHeld => ?_)
        clear hK K
        refine norm_ (a' := ?_) ?_ ?_
        rotate_left
        ·show Act.put _ (some 80) _ = _
         simp only [Act.put, List.setIfInBounds_toArray, List.set_cons_zero, List.set_cons_succ]
         rfl
        obtain ⟨bK, hbK⟩ := own_after2 hbJ htWK
        refine one_ (i := 14) (N := some 84) (bA 16 32767) rfl rfl (by kernel_rfl) (by decide) (fun K hK => ?_)
        refine Kd.R_append_rows_step X.k55 (w0 := W10) W10.heap.size (by rfl) (.tmp 80) (.tmp 83) 35 55 (.agg #[.string ⟨#[]⟩, .int .i64 0]) 24 rfl Tryz.underlying35 X.info55 rfl (by decide) (by omega) vWK (out.take k ++ [(⟨x, n⟩ : X.S55)]) (out.drop k) _ _ _ (fun _ => True) (fun _ => False) rfl rfl (hOWK) (drop_C hO10 hBWK hkl) (fun _ _ h => h) (fun _ h => h.elim) (fun _ _ => trivial) (hBWK) (hBWK).size (by simp; omega) ?_
        intro vWL WL hOWL hBWL hgWL htWL
        refine hK.out _ _ ⟨keepw hBWL hH10.1, keepw hBWL hH10.2⟩ (fun hHeld => ?_)
        clear hK K
        refine norm_ (a' := ?_) ?_ ?_
        rotate_left
        ·show Act.put _ (some 84) _ = _
         simp only [Act.put, List.setIfInBounds_toArray, List.set_cons_zero, List.set_cons_succ]
         rfl
        obtain ⟨bL, hbL⟩ := own_after2 hbK htWL
        refine pure_ (i := 15) (N := some 3) (v := ?_) (a' := ?_) (bA 16 65535) rfl rfl (by kernel_rfl) (fun _ _ _ h => h) (Or.inl ⟨by rfl, ?_⟩) ?_ ?_
        rotate_left
        ·intro w'
         go_simp
         with_reducible rfl
        rotate_left
        ·simp only [Act.put, List.setIfInBounds_toArray, List.set_cons_zero, List.set_cons_succ]
         rfl
        refine done_ (by kernel_rfl) ?_
        have hsz : w.heap.size ≤ W10.heap.size := Nat.le_trans hB.size hB10.size
        have hBe : Below w.heap.size w WL := (hB.trans (hB10.mono hB.size)).trans (hBWL.mono hsz)
        have hOe := Kd.R_lower hOWL hsz
        go_wp2_with fail
        refine ⟨⟨i + 1, by omega, by simp, ?_, hBe, _, hbL⟩, by simp [intOf]; omega⟩
        rw [hnext.out, hmiss]
        exact hOe
     ·have hkk : k = posB out x := by omega
      have hmiss := rj_miss out x n k hkk (fun h => absurd h hko) hn
      replace hkk := Lib.hid hkk
      have hkd : decide (k < out.length) = false := by simpa using hko
      go_wp2_with fail
      go_quiet (fail)
      go_wp2
      have c0 := keepw (pw_below_drewN (Below.refl _ _) nq) b0
      have hB8 := pw_below_drewN hB2 nq
      generalize wr.drewN nq = W8 at c0 hB8 ⊢
      clear b0
      go_quiet (fail)
      go_wp2
      have hB9 := pw_below_drewN hB8 nq
      generalize W8.drewN nq = W9 at hB9 ⊢
      have q0 := keepw hB9 a0
      have q1 := keepw hB9 a1
      have hO9 := Kd.R_below hO hB9
      refine start_ (n := 16) (S := fun w' => w'.cell? (ad.add (i * 2)) = some (.string x) ∧ w'.cell? ⟨(ad.add (i * 2)).block, (ad.add (i * 2)).off + 1, none⟩ = some (.int .i64 n)) (ds := []) (bA 16 0) (by kernel_rfl) rfl rfl ?_ (fun hHeld => ?_)
      ·exact ⟨q0, q1⟩
      have hO10 := Kd.R_drew hO9
      have hB10 := below_drew hB9
      generalize W9.drew = W10 at hHeld hO10 hB10 ⊢
      have hcap : out.length ≤ c3 := (Kd.R_reads' hO10).2.1
      have hkl : k ≤ out.length := by omega
      have hkc : k ≤ c3 := by omega
      refine pure_ (i := 1) (N := some 71) (v := ?_) (a' := ?_) (bA 16 2) rfl rfl (by kernel_rfl) (fun _ _ _ h => h) (Or.inl ⟨by rfl, ?_⟩) ?_ ?_
      rotate_left
      ·intro w'
       go_simp
       with_reducible rfl
      rotate_left
      ·simp only [Act.put, List.setIfInBounds_toArray, List.set_cons_zero, List.set_cons_succ]
       rfl
      refine pure_ (i := 2) (N := some 72) (v := ?_) (a' := ?_) (bA 16 6) rfl rfl (by kernel_rfl) (fun _ _ _ h => h) (Or.inl ⟨by rfl, ?_⟩) ?_ ?_
      rotate_left
      ·intro w'
       go_simp
       with_reducible rfl
      rotate_left
      ·simp only [Act.put, List.setIfInBounds_toArray, List.set_cons_zero, List.set_cons_succ]
       rfl
      refine pure_ (i := 3) (N := some 73) (v := ?_) (a' := ?_) (bA 16 14) rfl rfl (by kernel_rfl) (fun _ _ _ h => h) (Or.inl ⟨by rfl, ?_⟩) ?_ ?_
      rotate_left
      ·intro w'
       go_simp
       with_reducible rfl
      rotate_left
      ·simp only [Act.put, List.setIfInBounds_toArray, List.set_cons_zero, List.set_cons_succ]
       rfl
      refine pure_ (i := 5) (N := some 75) (v := ?_) (a' := ?_) (bA 16 46) rfl rfl (by kernel_rfl) (fun _ _ _ h => h) (Or.inl ⟨by rfl, ?_⟩) ?_ ?_
      rotate_left
      ·intro w'
       go_simp
       with_reducible rfl
      rotate_left
      ·simp only [Act.put, List.setIfInBounds_toArray, List.set_cons_zero, List.set_cons_succ]
       rfl
      refine pure_ (i := 6) (N := some 76) (v := ?_) (a' := ?_) (bA 16 110) rfl rfl (by kernel_rfl) (fun _ _ _ h => h) (Or.inl ⟨by rfl, ?_⟩) ?_ ?_
      rotate_left
      ·intro w'
       go_simp
       with_reducible rfl
      rotate_left
      ·simp only [Act.put, List.setIfInBounds_toArray, List.set_cons_zero, List.set_cons_succ]
       rfl
      refine pure_ (i := 7) (N := some 77) (v := ?_) (a' := ?_) (bA 16 238) rfl rfl (by kernel_rfl) (fun _ _ _ h => h) (Or.inl ⟨by rfl, ?_⟩) ?_ ?_
      rotate_left
      ·intro w'
       go_simp
       with_reducible rfl
      rotate_left
      ·simp only [Act.put, List.setIfInBounds_toArray, List.set_cons_zero, List.set_cons_succ]
       rfl
      refine take_ (i := 8) (N := some 78) (v := ?_) (a' := ?_) (bA 16 494) rfl rfl (by kernel_rfl) (fun _ _ _ h => h) (Or.inl ⟨by rfl, ?_⟩) hHeld ?_ ?_
      rotate_left
      ·rintro w' ⟨s0, s1⟩
       go_simp
       with_reducible rfl
      rotate_left
      ·simp only [Act.put, List.setIfInBounds_toArray, List.set_cons_zero, List.set_cons_succ]
       rfl
      refine pure_ (i := 11) (N := some 81) (v := ?_) (a' := ?_) (bA 16 2542) rfl rfl (by kernel_rfl) (fun _ _ _ h => h) (Or.inl ⟨by rfl, ?_⟩) ?_ ?_
      rotate_left
      ·intro w'
       go_simp
       with_reducible rfl
      rotate_left
      ·simp only [Act.put, List.setIfInBounds_toArray, List.set_cons_zero, List.set_cons_succ]
       rfl
      refine pure_ (i := 12) (N := some 82) (v := ?_) (a' := ?_) (bA 16 6638) rfl rfl (by kernel_rfl) (fun _ _ _ h => h) (Or.inl ⟨by rfl, ?_⟩) ?_ ?_
      rotate_left
      ·intro w'
       go_simp
       with_reducible rfl
      rotate_left
      ·simp only [Act.put, List.setIfInBounds_toArray, List.set_cons_zero, List.set_cons_succ]
       rfl
      refine pure_ (i := 13) (N := some 83) (v := ?_) (a' := ?_) (bA 16 14830) rfl rfl (by kernel_rfl) (fun _ _ _ h => h) (Or.inl ⟨by rfl, ?_⟩) ?_ ?_
      rotate_left
      ·intro w'
       go_simp
       with_reducible rfl
      rotate_left
      ·simp only [Act.put, List.setIfInBounds_toArray, List.set_cons_zero, List.set_cons_succ]
       rfl
      have hH10 := hHeld
      refine join_ (σ := Nat × Value × Nat) 3 (bA 16 15359) (fun s_ => [(70, .slice (some ⟨s_.1, 0, none⟩) 0 0), (74, s_.2.1), (79, .slice (some ⟨s_.2.2, 0, none⟩) 1 1)]) (fun s_ w' => Kd.R X.k55 55 w' W10.heap.size (fun _ => True) s_.2.1 (out.take k) ∧ (∃ b, s_.2.1.ownBlock = some b) ∧ Below W10.heap.size W10 w' ∧ w'.cell? ⟨s_.2.2, 0, none⟩ = some (.string x) ∧ w'.cell? ⟨s_.2.2, 1, none⟩ = some (.int .i64 n)) ?_ ?_
      rotate_left
      ·intro hCont
       refine two_ (i := 0) (j := 9) (Ni := some 70) (Nj := some 79) (bA 16 14831) (bA 16 15342) rfl rfl rfl rfl (by kernel_rfl) (by decide) (by decide) (fun K hK => ?_) (fun K hK => ?_)
       ·refine value_ (by rfl) rfl (by go_simp; first | done | exact ⟨rfl, rfl⟩ | rfl) ?_
        have hE := R_empty W10
        have hBWa : Below W10.heap.size W10 (W10.alloc (.cells #[] 55)) := (Below.refl W10.heap.size W10).alloc (Below.refl W10.heap.size W10).size _
        have hUWa : Below W10.heap.size W10 (W10.alloc (.cells #[] 55)) := below_alloc (Below.refl _ _) _
        have hBWa_lt : W10.heap.size < (W10.alloc (.cells #[] 55)).heap.size := by simp
        generalize W10.alloc (.cells #[] 55) = Wa at hE hBWa hUWa hBWa_lt ⊢
        refine hK.out _ _ ⟨keepw hBWa hH10.1, keepw hBWa hH10.2⟩ (fun hHeld => ?_)
        clear hK K
        refine norm_ (a' := ?_) ?_ ?_
        rotate_left
        ·show Act.put _ (some 70) _ = _
         simp only [Act.put, List.setIfInBounds_toArray, List.set_cons_zero, List.set_cons_succ]
         rfl
        refine two_ (i := 4) (j := 9) (Ni := some 74) (Nj := some 79) (bA 16 14847) (bA 16 15343) rfl rfl rfl rfl (by kernel_rfl) (by decide) (by decide) (fun K hK => ?_) (fun K hK => ?_)
        ·refine Kd.R_append_rows_step X.k55 (w0 := W10) W10.heap.size (by rfl) (.tmp 70) (.tmp 73) 35 55 (.agg #[.string ⟨#[]⟩, .int .i64 0]) 24 rfl Tryz.underlying35 X.info55 rfl (by decide) (by omega) _ [] (out.take k) _ k _ (fun _ => True) (fun _ => False) rfl rfl (hE) (take_C hO10 (hBWa) hkl) (fun _ _ h => h) (fun _ h => h.elim) (fun _ _ => trivial) (hBWa) (hBWa).size (by simp; omega) ?_
         intro vWb Wb hOWb hBWb hgWb htWb
         refine hK.out _ _ ⟨keepw hBWb hH10.1, keepw hBWb hH10.2⟩ (fun hHeld => ?_)
         clear hK K
         refine norm_ (a' := ?_) ?_ ?_
         rotate_left
         ·show Act.put _ (some 74) _ = _
          simp only [Act.put, List.setIfInBounds_toArray, List.set_cons_zero, List.set_cons_succ]
          rfl
         refine one_ (i := 9) (N := some 79) (bA 16 15359) rfl rfl (by kernel_rfl) (by decide) (fun K hK => ?_)
         refine value_ (by rfl) rfl (by go_simp; first | done | exact ⟨rfl, rfl⟩ | rfl) ?_
         have hkWc := blk_new Wb (.cells #[.string x, .int .i64 n] 55)
         have hBWc : Below W10.heap.size W10 (Wb.alloc (.cells #[.string x, .int .i64 n] 55)) := (hBWb).alloc (hBWb).size _
         have hUWc : Below Wb.heap.size Wb (Wb.alloc (.cells #[.string x, .int .i64 n] 55)) := below_alloc (Below.refl _ _) _
         generalize Wb.alloc (.cells #[.string x, .int .i64 n] 55) = Wc at hkWc hBWc hUWc ⊢
         refine hK.out _ _ ⟨keepw hBWc hH10.1, keepw hBWc hH10.2⟩ (fun hHeld => ?_)
         exact norm_ (by show Act.put _ (some 79) _ = _; simp only [putAll, Act.put, List.setIfInBounds_toArray, List.set_cons_zero, List.set_cons_succ]) (hCont (W10.heap.size, vWb, Wb.heap.size) _ ⟨Kd.R_below (by simpa using hOWb) hUWc, own_after htWb, hBWc, (blk_cell hkWc 0).trans rfl, (blk_cell hkWc 1).trans rfl⟩)
        ·refine value_ (by rfl) rfl (by go_simp; first | done | exact ⟨rfl, rfl⟩ | rfl) ?_
         have hkWb := blk_new Wa (.cells #[.string x, .int .i64 n] 55)
         have hBWb : Below W10.heap.size W10 (Wa.alloc (.cells #[.string x, .int .i64 n] 55)) := (hBWa).alloc (hBWa).size _
         have hUWb : Below Wa.heap.size Wa (Wa.alloc (.cells #[.string x, .int .i64 n] 55)) := below_alloc (Below.refl _ _) _
         generalize Wa.alloc (.cells #[.string x, .int .i64 n] 55) = Wb at hkWb hBWb hUWb ⊢
         refine hK.out _ _ ⟨keepw hBWb hH10.1, keepw hBWb hH10.2⟩ (fun hHeld => ?_)
         clear hK K
         refine norm_ (a' := ?_) ?_ ?_
         rotate_left
         ·show Act.put _ (some 79) _ = _
          simp only [Act.put, List.setIfInBounds_toArray, List.set_cons_zero, List.set_cons_succ]
          rfl
         refine one_ (i := 4) (N := some 74) (bA 16 15359) rfl rfl (by kernel_rfl) (by decide) (fun K hK => ?_)
         refine Kd.R_append_rows_step X.k55 (w0 := W10) W10.heap.size (by rfl) (.tmp 70) (.tmp 73) 35 55 (.agg #[.string ⟨#[]⟩, .int .i64 0]) 24 rfl Tryz.underlying35 X.info55 rfl (by decide) (by omega) _ [] (out.take k) _ k _ (fun _ => True) (fun _ => False) rfl rfl (Kd.R_below hE hUWb) (take_C hO10 (hBWb) hkl) (fun _ _ h => h) (fun _ h => h.elim) (fun _ _ => trivial) (hBWb) (hBWb).size (by simp; omega) ?_
         intro vWc Wc hOWc hBWc hgWc htWc
         have hne : W10.heap.size < Wa.heap.size := hBWa_lt
         refine hK.out _ _ ⟨keepw hBWc hH10.1, keepw hBWc hH10.2⟩ (fun hHeld => ?_)
         exact norm_ (by show Act.put _ (some 74) _ = _; simp only [putAll, Act.put, List.setIfInBounds_toArray, List.set_cons_zero, List.set_cons_succ]) (hCont (W10.heap.size, vWc, Wa.heap.size) _ ⟨by simpa using hOWc, own_after htWc, hBWc, cell_grown (k := 0) hgWc ((blk_cell hkWb 0).trans rfl) (Nat.ne_of_gt hne) rfl, cell_grown (k := 0) hgWc ((blk_cell hkWb 1).trans rfl) (Nat.ne_of_gt hne) rfl⟩)
       ·refine value_ (by rfl) rfl (by go_simp; first | done | exact ⟨rfl, rfl⟩ | rfl) ?_
        have hkWa := blk_new W10 (.cells #[.string x, .int .i64 n] 55)
        have hBWa : Below W10.heap.size W10 (W10.alloc (.cells #[.string x, .int .i64 n] 55)) := (Below.refl W10.heap.size W10).alloc (Below.refl W10.heap.size W10).size _
        have hUWa : Below W10.heap.size W10 (W10.alloc (.cells #[.string x, .int .i64 n] 55)) := below_alloc (Below.refl _ _) _
        generalize W10.alloc (.cells #[.string x, .int .i64 n] 55) = Wa at hkWa hBWa hUWa ⊢
        refine hK.out _ _ ⟨keepw hBWa hH10.1, keepw hBWa hH10.2⟩ (fun hHeld => ?_)
        clear hK K
        refine norm_ (a' := ?_) ?_ ?_
        rotate_left
        ·show Act.put _ (some 79) _ = _
         simp only [Act.put, List.setIfInBounds_toArray, List.set_cons_zero, List.set_cons_succ]
         rfl
        refine one_ (i := 0) (N := some 70) (bA 16 15343) rfl rfl (by kernel_rfl) (by decide) (fun K hK => ?_)
        refine value_ (by rfl) rfl (by go_simp; first | done | exact ⟨rfl, rfl⟩ | rfl) ?_
        have hE := R_empty Wa
        have hBWb : Below W10.heap.size W10 (Wa.alloc (.cells #[] 55)) := (hBWa).alloc (hBWa).size _
        have hUWb : Below Wa.heap.size Wa (Wa.alloc (.cells #[] 55)) := below_alloc (Below.refl _ _) _
        have hBWb_lt : Wa.heap.size < (Wa.alloc (.cells #[] 55)).heap.size := by simp
        generalize Wa.alloc (.cells #[] 55) = Wb at hE hBWb hUWb hBWb_lt ⊢
        refine hK.out _ _ ⟨keepw hBWb hH10.1, keepw hBWb hH10.2⟩ (fun hHeld => ?_)
        clear hK K
        refine norm_ (a' := ?_) ?_ ?_
        rotate_left
        ·show Act.put _ (some 70) _ = _
         simp only [Act.put, List.setIfInBounds_toArray, List.set_cons_zero, List.set_cons_succ]
         rfl
        refine one_ (i := 4) (N := some 74) (bA 16 15359) rfl rfl (by kernel_rfl) (by decide) (fun K hK => ?_)
        refine Kd.R_append_rows_step X.k55 (w0 := W10) W10.heap.size (by rfl) (.tmp 70) (.tmp 73) 35 55 (.agg #[.string ⟨#[]⟩, .int .i64 0]) 24 rfl Tryz.underlying35 X.info55 rfl (by decide) (by omega) _ [] (out.take k) _ k _ (fun _ => True) (fun _ => False) rfl rfl (Kd.R_lower hE hBWa.size) (take_C hO10 (hBWb) hkl) (fun _ _ h => h) (fun _ h => h.elim) (fun _ _ => trivial) (hBWb) (hBWb).size (by simp; omega) ?_
        intro vWc Wc hOWc hBWc hgWc htWc
        have hne : W10.heap.size ≠ Wa.heap.size := Nat.ne_of_lt (blk_lt hkWa)
        refine hK.out _ _ ⟨keepw hBWc hH10.1, keepw hBWc hH10.2⟩ (fun hHeld => ?_)
        exact norm_ (by show Act.put _ (some 74) _ = _; simp only [putAll, Act.put, List.setIfInBounds_toArray, List.set_cons_zero, List.set_cons_succ]) (hCont (Wa.heap.size, vWc, W10.heap.size) _ ⟨by simpa using hOWc, own_after htWc, hBWc, cell_grown (k := 0) hgWc (keepw hUWb ((blk_cell hkWa 0).trans rfl)) hne rfl, cell_grown (k := 0) hgWc (keepw hUWb ((blk_cell hkWa 1).trans rfl)) hne rfl⟩)
      rintro ⟨b70, v74, b79⟩ WJ ⟨hOJ, ⟨bJ, hbJ⟩, hBJ, j0, j1⟩
      replace hOJ : Kd.R X.k55 55 WJ W10.heap.size (fun _ => True) v74 (out.take k) := hOJ
      replace hbJ : v74.ownBlock = some bJ := hbJ
      obtain ⟨cJ, eJ⟩ := R_at_block hOJ hbJ
      refine norm_ (a' := ?_) ?_ ?_
      rotate_left
      ·simp only [putAll, Act.put, List.setIfInBounds_toArray, List.set_cons_zero, List.set_cons_succ]
       rfl
      refine one_ (i := 10) (N := some 80) (bA 16 16383) rfl rfl (by kernel_rfl) (by decide) (fun K hK => ?_)
      refine Kd.R_append_rows_step X.k55 (w0 := W10) W10.heap.size (by rfl) (.tmp 74) (.tmp 79) 35 55 (.agg #[.string ⟨#[]⟩, .int .i64 0]) 24 rfl Tryz.underlying35 X.info55 rfl (by decide) (by omega) v74 (out.take k) [(⟨x, n⟩ : X.S55)] _ 1 _ (fun _ => True) (fun _ => False) rfl rfl (hOJ) (C_one WJ b79 x n j0 j1) (fun _ _ h => h) (fun _ h => h.elim) (fun _ _ => trivial) (hBJ) (hBJ).size (by simp; omega) ?_
      intro vWK WK hOWK hBWK hgWK htWK
      refine hK.out _ _ ⟨keepw hBWK hH10.1, keepw hBWK hH10.2⟩ (fun hHeld => ?_)
      clear hK K
      refine norm_ (a' := ?_) ?_ ?_
      rotate_left
      ·show Act.put _ (some 80) _ = _
       simp only [Act.put, List.setIfInBounds_toArray, List.set_cons_zero, List.set_cons_succ]
       rfl
      obtain ⟨bK, hbK⟩ := own_after2 hbJ htWK
      refine one_ (i := 14) (N := some 84) (bA 16 32767) rfl rfl (by kernel_rfl) (by decide) (fun K hK => ?_)
      refine Kd.R_append_rows_step X.k55 (w0 := W10) W10.heap.size (by rfl) (.tmp 80) (.tmp 83) 35 55 (.agg #[.string ⟨#[]⟩, .int .i64 0]) 24 rfl Tryz.underlying35 X.info55 rfl (by decide) (by omega) vWK (out.take k ++ [(⟨x, n⟩ : X.S55)]) (out.drop k) _ _ _ (fun _ => True) (fun _ => False) rfl rfl (hOWK) (drop_C hO10 hBWK hkl) (fun _ _ h => h) (fun _ h => h.elim) (fun _ _ => trivial) (hBWK) (hBWK).size (by simp; omega) ?_
      intro vWL WL hOWL hBWL hgWL htWL
      refine hK.out _ _ ⟨keepw hBWL hH10.1, keepw hBWL hH10.2⟩ (fun hHeld => ?_)
      clear hK K
      refine norm_ (a' := ?_) ?_ ?_
      rotate_left
      ·show Act.put _ (some 84) _ = _
       simp only [Act.put, List.setIfInBounds_toArray, List.set_cons_zero, List.set_cons_succ]
       rfl
      obtain ⟨bL, hbL⟩ := own_after2 hbK htWL
      refine pure_ (i := 15) (N := some 3) (v := ?_) (a' := ?_) (bA 16 65535) rfl rfl (by kernel_rfl) (fun _ _ _ h => h) (Or.inl ⟨by rfl, ?_⟩) ?_ ?_
      rotate_left
      ·intro w'
       go_simp
       with_reducible rfl
      rotate_left
      ·simp only [Act.put, List.setIfInBounds_toArray, List.set_cons_zero, List.set_cons_succ]
       rfl
      refine done_ (by kernel_rfl) ?_
      have hsz : w.heap.size ≤ W10.heap.size := Nat.le_trans hB.size hB10.size
      have hBe : Below w.heap.size w WL := (hB.trans (hB10.mono hB.size)).trans (hBWL.mono hsz)
      have hOe := Kd.R_lower hOWL hsz
      go_wp2_with fail
      refine ⟨⟨i + 1, by omega, by simp, ?_, hBe, _, hbL⟩, by simp [intOf]; omega⟩
      rw [hnext.out, hmiss]
      exact hOe
  ·have e : i = l.length := by omega
   subst e
   have eJ := Lib.hid (congrArg rjoinB (List.take_length (l := l)))
   go_wp2_with fail
   go_ret
   refine ⟨_, rfl, ?_, hB⟩
   rw [← eJ.out]
   exact hO
end Go.Proofs.YtfflbeenkfaemaaGreatDoor.Ext
namespace Go.Proofs.YtfflbeenkfaemaaGreatDoor.Ext
open Go.RowKit Go.Proofs.YtfflbeenkfaemaaGreatDoorW.PrintWords Go.Proofs.YtfflbeenkfaemaaGreatDoorW.PrintLast
set_option maxHeartbeats 2000000 in
theorem Clone_any (A : Option Addr) (c : Nat) (l : List X.S55) (w : World) (hr : LC w A l) :
  Calls Tryz.prog 62 #[.slice A l.length c] w fun e w' => ∃ v, e = .returned v ∧ Kd.R X.k55 55 w' w.heap.size (fun _ => True) v l ∧ Below w.heap.size w w' := by
 have hl := hr.len
 cases A with
 | none =>
  have h0 : l = [] := by
   cases l with
   | nil => rfl
   | cons x l =>
    obtain ⟨ad, h, _⟩ := hr.row.2.2 (by simp)
    cases h
  subst h0
  have he0 : ∀ W, (binOp .eql 35 (.slice none 0 c) (.slice none 0 0)).run Tryz.prog W = .ok (.bool true) W := fun W => by
   have := Lib.run_eql_slice_nil (P := Tryz.prog) W 35 55 none 0 c 0 0 Tryz.underlying35
   simpa using this
  simp only [List.length_nil]
  go_enter Tryz.func62, Tryz.ntmps62
  go_wp2_with fail
  go_ret
  exact ⟨_, rfl, Kd.R_nil _ _ _ _ _, Below.refl _ _⟩
 | some ad =>
  have he0 : ∀ W, (binOp .eql 35 (.slice (some ad) l.length c) (.slice none 0 0)).run Tryz.prog W = .ok (.bool false) W := fun W => by
   have := Lib.run_eql_slice_nil (P := Tryz.prog) W 35 55 (some ad) l.length c 0 0 Tryz.underlying35
   simpa using this
  have hrow := hr.row
  clear hr
  go_enter Tryz.func62, Tryz.ntmps62
  go_wp2_with (first
   | ((with_reducible refine gate_dst (N := 5) rfl ?_); refine Kd.R_lit X.k55 _ 55 ?hg (N := 5) ?hd (xs := ([] : List X.S55)) (inner := []) (ok := fun _ => True) (okp := fun _ => True) ?hr ?hp (fun _ hk => hk) trivial (Below.refl _ _) (Nat.le_refl _) (by simp) ?_; (case hd => rfl); (case hg => rfl); (case hr => first | (go_simp; done) | (go_simp; rfl)); (case hp => exact (Reps.none _ _)); intro v0 w1 hO0 hB0 hg0 hn0; clear hg0 hn0)
   | ((with_reducible refine gate_builtin (b := .append) (xs := #[.tmp 5, .tmp 6]) rfl ?_); at_builtin; refine Kd.R_append_rows X.k55 (w0 := w) w.heap.size rfl (.tmp 5) (.tmp 6) 35 55 (.agg #[.string ⟨#[]⟩, .int .i64 0]) 24 rfl Tryz.underlying35 X.info55 rfl (by decide) (by omega) v0 [] l (some ad) l.length c (fun _ => True) (fun _ => False) rfl rfl hO0 (Kd.C_below hrow hB0) (fun _ _ h => h) (fun _ h => h.elim) (fun _ _ => trivial) hB0 hB0.size (by simp; omega) ?_; intro v1 w2 hO1 hB1 hg1 ht1))
  go_ret
  exact ⟨_, rfl, by simpa using hO1, hB1⟩
set_option maxHeartbeats 4000000 in
set_option maxRecDepth 100000 in
theorem Fits_any (t : Nat) (gs : List X.S30) (mk : ByteArray) (kind : Int) (A : Option Addr) (c : Nat) (l : List X.S55) (z : X.S55) (w : World) (ht : TC w t gs) (hr : LC w A l) (hl : l.length ≤ 99999) (hz : z.f0.size ≤ 9223372036854775807) :
  Calls Tryz.prog 26 #[.pointer (some ⟨t, 0, none⟩), .agg #[.string mk, .int .i64 kind, .slice A l.length c], lotV z] w fun e w' => e = .returned (.bool (goB gs kind (l ++ [z]))) ∧ Below w.heap.size w w' := by
 obtain ⟨x, n⟩ := z
 simp only at hz
 unfold lotV
 have hs := hr.size
 have hB0 : Below w.heap.size w ((w.alloc (.cells #[.string mk, .int .i64 kind, .slice A l.length c] 44)).alloc (.cells #[.string x, .int .i64 n] 55)) := below_alloc (below_alloc (Below.refl _ _) _) _
 have hb1 : ((w.alloc (.cells #[.string mk, .int .i64 kind, .slice A l.length c] 44)).alloc (.cells #[.string x, .int .i64 n] 55)).heap[w.heap.size]? = some (.cells #[.string mk, .int .i64 kind, .slice A l.length c] 44 (0, 0)) := blk_alloc (blk_new w _) _
 have hb2 : ((w.alloc (.cells #[.string mk, .int .i64 kind, .slice A l.length c] 44)).alloc (.cells #[.string x, .int .i64 n] 55)).heap[w.heap.size + 1]? = some (.cells #[.string x, .int .i64 n] 55 (0, 0)) := by
  have := blk_new (w.alloc (.cells #[.string mk, .int .i64 kind, .slice A l.length c] 44)) (.cells #[.string x, .int .i64 n] 55)
  simpa using this
 go_enter Tryz.func26, Tryz.ntmps26
 go_wp2_with fail
 have hr1 := hr.below hB0
 have ht1 := ht.below hB0
 clear hr ht
 generalize w.heap.size + 1 = g5 at hb2 ⊢
 generalize hg4 : w.heap.size = g4 at hb1 ⊢
 rw [hg4] at hB0
 generalize (w.alloc (.cells #[.string mk, .int .i64 kind, .slice A l.length c] 44)).alloc (.cells #[.string x, .int .i64 n] 55) = W0 at hB0 hb1 hb2 hr1 ht1 ⊢
 have k1 := (blk_cell hb1 1).trans rfl
 have k2 := (blk_cell hb1 2).trans rfl
 have x0 := (blk_cell hb2 0).trans rfl
 have x1 := (blk_cell hb2 1).trans rfl
 refine start_ (n := 11) (S := fun w' => w'.cell? ⟨g4, 1, none⟩ = some (.int .i64 kind) ∧ w'.cell? ⟨g4, 2, none⟩ = some (.slice A l.length c) ∧ w'.cell? ⟨g5, 0, none⟩ = some (.string x) ∧ w'.cell? ⟨g5, 1, none⟩ = some (.int .i64 n)) (ds := []) (bA 11 0) (by kernel_rfl) rfl rfl ?_ (fun hHeld => ?_)
 ·exact ⟨k1, k2, x0, x1⟩
 have hBd : Below W0.heap.size W0 W0.drew := below_drew (Below.refl _ _)
 have hr2 := hr1.below hBd
 have ht2 := ht1.below hBd
 have hBW : Below g4 w W0.drew := below_drew hB0
 clear hr1 ht1 hb1 hb2 k1 k2 x0 x1 hBd hB0
 generalize W0.drew = W1 at hHeld hr2 ht2 hBW ⊢
 refine pure_ (i := 0) (N := some 7) (v := ?_) (a' := ?_) (bA 11 1) rfl rfl (by kernel_rfl) (fun _ _ _ h => h) (Or.inl ⟨by rfl, ?_⟩) ?_ ?_
 rotate_left
 ·intro w'
  go_simp
  with_reducible rfl
 rotate_left
 ·simp only [Act.put, List.setIfInBounds_toArray, List.set_cons_zero, List.set_cons_succ]
  rfl
 refine pure_ (i := 1) (N := some 8) (v := ?_) (a' := ?_) (bA 11 3) rfl rfl (by kernel_rfl) (fun _ _ _ h => h) (Or.inl ⟨by rfl, ?_⟩) ?_ ?_
 rotate_left
 ·intro w'
  go_simp
  with_reducible rfl
 rotate_left
 ·simp only [Act.put, List.setIfInBounds_toArray, List.set_cons_zero, List.set_cons_succ]
  rfl
 refine take_ (i := 2) (N := some 9) (v := ?_) (a' := ?_) (bA 11 7) rfl rfl (by kernel_rfl) (fun _ _ _ h => h) (Or.inl ⟨by rfl, ?_⟩) hHeld ?_ ?_
 rotate_left
 ·rintro w' ⟨s0, s1, s2, s3⟩
  go_simp
  with_reducible rfl
 rotate_left
 ·simp only [Act.put, List.setIfInBounds_toArray, List.set_cons_zero, List.set_cons_succ]
  rfl
 refine pure_ (i := 3) (N := some 10) (v := ?_) (a' := ?_) (bA 11 15) rfl rfl (by kernel_rfl) (fun _ _ _ h => h) (Or.inl ⟨by rfl, ?_⟩) ?_ ?_
 rotate_left
 ·intro w'
  go_simp
  with_reducible rfl
 rotate_left
 ·simp only [Act.put, List.setIfInBounds_toArray, List.set_cons_zero, List.set_cons_succ]
  rfl
 refine take_ (i := 4) (N := some 11) (v := ?_) (a' := ?_) (bA 11 31) rfl rfl (by kernel_rfl) (fun _ _ _ h => h) (Or.inl ⟨by rfl, ?_⟩) hHeld ?_ ?_
 rotate_left
 ·rintro w' ⟨s0, s1, s2, s3⟩
  go_simp
  with_reducible rfl
 rotate_left
 ·simp only [Act.put, List.setIfInBounds_toArray, List.set_cons_zero, List.set_cons_succ]
  rfl
 refine take_ (i := 6) (N := some 13) (v := ?_) (a' := ?_) (bA 11 95) rfl rfl (by kernel_rfl) (fun _ _ _ h => h) (Or.inl ⟨by rfl, ?_⟩) hHeld ?_ ?_
 rotate_left
 ·rintro w' ⟨s0, s1, s2, s3⟩
  go_simp
  with_reducible rfl
 rotate_left
 ·simp only [Act.put, List.setIfInBounds_toArray, List.set_cons_zero, List.set_cons_succ]
  rfl
 have hH := hHeld
 refine join_ (σ := Value × Nat) 3 (bA 11 255) (fun s_ => [(12, s_.1), (14, .slice (some ⟨s_.2, 0, none⟩) 1 1)]) (fun s_ w' => Kd.R X.k55 55 w' W1.heap.size (fun _ => True) s_.1 l ∧ Below W1.heap.size W1 w' ∧ w'.cell? ⟨s_.2, 0, none⟩ = some (.string x) ∧ w'.cell? ⟨s_.2, 1, none⟩ = some (.int .i64 n)) ?_ ?_
 rotate_left
 ·intro hCont
  refine two_ (i := 5) (j := 7) (Ni := some 12) (Nj := some 14) (bA 11 127) (bA 11 223) rfl rfl rfl rfl (by kernel_rfl) (by decide) (by decide) (fun K hK => ?_) (fun K hK => ?_)
  ·refine goes_ Tryz.func62 (by kernel_rfl) rfl #[.slice A l.length c] (by rfl) rfl rfl (by (try simp only [List.map_toArray, List.map_cons, List.map_nil]); first | done | rfl) ?_
   refine (Clone_any A c l W1 (hr2.below (Below.refl W1.heap.size W1))).mono ?_
   rintro e Wa ⟨vWa, rfl, hOWa, hUWa⟩
   have hBWa := below_step (Below.refl W1.heap.size W1) hUWa
   refine ⟨_, rfl, ?_⟩
   refine hK.out _ _ ⟨keepw hBWa hH.1, keepw hBWa hH.2.1, keepw hBWa hH.2.2.1, keepw hBWa hH.2.2.2⟩ (fun hHeld => ?_)
   clear hK K
   refine norm_ (a' := ?_) ?_ ?_
   rotate_left
   ·show Act.put _ (some 12) _ = _
    simp only [Act.put, List.setIfInBounds_toArray, List.set_cons_zero, List.set_cons_succ]
    rfl
   refine one_ (i := 7) (N := some 14) (bA 11 255) rfl rfl (by kernel_rfl) (by decide) (fun K hK => ?_)
   refine value_ (by rfl) rfl (by go_simp; first | done | exact ⟨rfl, rfl⟩ | rfl) ?_
   have hkWb := blk_new Wa (.cells #[.string x, .int .i64 n] 55)
   have hBWb : Below W1.heap.size W1 (Wa.alloc (.cells #[.string x, .int .i64 n] 55)) := (hBWa).alloc (hBWa).size _
   have hUWb : Below Wa.heap.size Wa (Wa.alloc (.cells #[.string x, .int .i64 n] 55)) := below_alloc (Below.refl _ _) _
   generalize Wa.alloc (.cells #[.string x, .int .i64 n] 55) = Wb at hkWb hBWb hUWb ⊢
   refine hK.out _ _ ⟨keepw hBWb hH.1, keepw hBWb hH.2.1, keepw hBWb hH.2.2.1, keepw hBWb hH.2.2.2⟩ (fun hHeld => ?_)
   exact norm_ (by show Act.put _ (some 14) _ = _; simp only [putAll, Act.put, List.setIfInBounds_toArray, List.set_cons_zero, List.set_cons_succ]) (hCont (vWa, Wa.heap.size) _ ⟨Kd.R_below hOWa hUWb, hBWb, (blk_cell hkWb 0).trans rfl, (blk_cell hkWb 1).trans rfl⟩)
  ·refine value_ (by rfl) rfl (by go_simp; first | done | exact ⟨rfl, rfl⟩ | rfl) ?_
   have hkWa := blk_new W1 (.cells #[.string x, .int .i64 n] 55)
   have hBWa : Below W1.heap.size W1 (W1.alloc (.cells #[.string x, .int .i64 n] 55)) := (Below.refl W1.heap.size W1).alloc (Below.refl W1.heap.size W1).size _
   have hUWa : Below W1.heap.size W1 (W1.alloc (.cells #[.string x, .int .i64 n] 55)) := below_alloc (Below.refl _ _) _
   generalize W1.alloc (.cells #[.string x, .int .i64 n] 55) = Wa at hkWa hBWa hUWa ⊢
   refine hK.out _ _ ⟨keepw hBWa hH.1, keepw hBWa hH.2.1, keepw hBWa hH.2.2.1, keepw hBWa hH.2.2.2⟩ (fun hHeld => ?_)
   clear hK K
   refine norm_ (a' := ?_) ?_ ?_
   rotate_left
   ·show Act.put _ (some 14) _ = _
    simp only [Act.put, List.setIfInBounds_toArray, List.set_cons_zero, List.set_cons_succ]
    rfl
   refine one_ (i := 5) (N := some 12) (bA 11 255) rfl rfl (by kernel_rfl) (by decide) (fun K hK => ?_)
   refine goes_ Tryz.func62 (by kernel_rfl) rfl #[.slice A l.length c] (by rfl) rfl rfl (by (try simp only [List.map_toArray, List.map_cons, List.map_nil]); first | done | rfl) ?_
   refine (Clone_any A c l Wa (hr2.below (hBWa))).mono ?_
   rintro e Wb ⟨vWb, rfl, hOWb, hUWb⟩
   have hBWb := below_step (hBWa) hUWb
   refine ⟨_, rfl, ?_⟩
   refine hK.out _ _ ⟨keepw hBWb hH.1, keepw hBWb hH.2.1, keepw hBWb hH.2.2.1, keepw hBWb hH.2.2.2⟩ (fun hHeld => ?_)
   exact norm_ (by show Act.put _ (some 12) _ = _; simp only [putAll, Act.put, List.setIfInBounds_toArray, List.set_cons_zero, List.set_cons_succ]) (hCont (vWb, W1.heap.size) _ ⟨Kd.R_lower hOWb hBWa.size, hBWb, keepw hUWb ((blk_cell hkWa 0).trans rfl), keepw hUWb ((blk_cell hkWa 1).trans rfl)⟩)
 rintro ⟨v12, b14⟩ WJ ⟨hOJ, hBJ, j0, j1⟩
 replace hOJ : Kd.R X.k55 55 WJ W1.heap.size (fun _ => True) v12 l := hOJ
 refine norm_ (a' := ?_) ?_ ?_
 rotate_left
 ·simp only [putAll, Act.put, List.setIfInBounds_toArray, List.set_cons_zero, List.set_cons_succ]
  rfl
 refine one_ (i := 8) (N := some 15) (bA 11 511) rfl rfl (by kernel_rfl) (by decide) (fun K hK => ?_)
 refine Kd.R_append_rows_step X.k55 (w0 := W1) W1.heap.size (by rfl) (.tmp 12) (.tmp 14) 35 55 (.agg #[.string ⟨#[]⟩, .int .i64 0]) 24 rfl Tryz.underlying35 X.info55 rfl (by decide) (by omega) v12 l [(⟨x, n⟩ : X.S55)] _ 1 _ (fun _ => True) (fun _ => False) rfl rfl hOJ (C_one WJ b14 x n j0 j1) (fun _ _ h => h) (fun _ h => h.elim) (fun _ _ => trivial) hBJ hBJ.size (by omega) ?_
 intro v15 WK hOK hBK hgK htK
 obtain ⟨A15, c15, rfl⟩ := Kd.R_slice hOK
 refine hK.out _ _ ⟨keepw hBK hH.1, keepw hBK hH.2.1, keepw hBK hH.2.2.1, keepw hBK hH.2.2.2⟩ (fun hHeld => ?_)
 clear hK K
 refine norm_ (a' := ?_) ?_ ?_
 rotate_left
 ·show Act.put _ (some 15) _ = _
  simp only [Act.put, List.setIfInBounds_toArray, List.set_cons_zero, List.set_cons_succ]
  rfl
 have cT := together_any t gs kind A15 c15 (l ++ [⟨x, n⟩]) WK (ht2.below hBK) ⟨(Kd.R_reads' hOK).2.2, by simp; omega, fun y hy => by rcases List.mem_append.1 hy with h | h; exact hs y h; rw [List.mem_singleton.1 h]; exact hz⟩
 refine one_ (i := 9) (N := some 16) (bA 11 1023) rfl rfl (by kernel_rfl) (by decide) (fun K hK => ?_)
 refine goes_ Tryz.func59 (by kernel_rfl) rfl #[.pointer (some ⟨t, 0, none⟩), .int .i64 kind, .slice A15 (l ++ [(⟨x, n⟩ : X.S55)]).length c15] (by rfl) rfl rfl (by (try simp only [List.map_toArray, List.map_cons, List.map_nil]); first | done | rfl) ?_
 refine (cT).mono ?_
 rintro e WL ⟨rfl, hbt⟩
 refine ⟨_, rfl, ?_⟩
 have hBL := below_step hBK hbt
 refine hK.out _ _ ⟨keepw hBL hH.1, keepw hBL hH.2.1, keepw hBL hH.2.2.1, keepw hBL hH.2.2.2⟩ (fun hHeld => ?_)
 clear hK K
 refine norm_ (a' := ?_) ?_ ?_
 rotate_left
 ·show Act.put _ (some 16) _ = _
  simp only [Act.put, List.setIfInBounds_toArray, List.set_cons_zero, List.set_cons_succ]
  rfl
 refine pure_ (i := 10) (N := some 6) (v := ?_) (a' := ?_) (bA 11 2047) rfl rfl (by kernel_rfl) (fun _ _ _ h => h) (Or.inl ⟨by rfl, ?_⟩) ?_ ?_
 rotate_left
 ·intro w'
  go_simp
  with_reducible rfl
 rotate_left
 ·simp only [Act.put, List.setIfInBounds_toArray, List.set_cons_zero, List.set_cons_succ]
  rfl
 refine done_ (by kernel_rfl) ?_
 have hBe : Below g4 w WL := hBW.trans (hBL.mono (by rw [← hg4]; have := hBW.size; exact this))
 clear hHeld hH
 go_wp2_with fail
 go_ret
 exact ⟨rfl, hBe⟩
end Go.Proofs.YtfflbeenkfaemaaGreatDoor.Ext
namespace Go.Proofs.YtfflbeenkfaemaaGreatDoor.Ext
open Go.RowKit Go.Proofs.YtfflbeenkfaemaaGreatDoorW.PrintWords Go.Proofs.YtfflbeenkfaemaaGreatDoorW.PrintLast Go.Proofs.YtfflbeenkfaemaaGreatDoorW.PrintMore
def bsB (p : Nat → Bool) : Nat → Nat → Nat → Nat
 | 0, lo, _ => lo
 | k + 1, lo, hi => if lo < hi then (if p ((lo + hi) / 2) = true then bsB p k lo ((lo + hi) / 2) else bsB p k ((lo + hi) / 2 + 1) hi) else lo
/-- sort.Search's answer. -/
def searchB (p : Nat → Bool) (n : Nat) : Nat := bsB p n 0 n
theorem bsB_end (p : Nat → Bool) (k lo hi : Nat) (h : ¬ lo < hi) : bsB p k lo hi = lo := by
 cases k with
 | zero => rfl
 | succ k => simp [bsB, h]
theorem bsB_more (p : Nat → Bool) : ∀ (k lo hi : Nat) (_ : hi - lo ≤ k) (j : Nat), bsB p (k + j) lo hi = bsB p k lo hi
 | 0, lo, hi, h, j => by
  rw [bsB_end p _ _ _ (by omega), bsB_end p _ _ _ (by omega)]
 | k + 1, lo, hi, h, j => by
  rw [show k + 1 + j = (k + j) + 1 by omega]
  unfold bsB
  split
  ·split
   ·exact bsB_more p k _ _ (by omega) j
   ·exact bsB_more p k _ _ (by omega) j
  ·rfl
theorem bsB_true (p : Nat → Bool) (k lo hi : Nat) (h : lo < hi) (hk : hi - lo ≤ k) (hp : p ((lo + hi) / 2) = true) : bsB p k lo hi = bsB p k lo ((lo + hi) / 2) := by
 obtain ⟨k, rfl⟩ : ∃ m, k = m + 1 := ⟨k - 1, by omega⟩
 rw [bsB_more p k lo ((lo + hi) / 2) (by omega) 1]
 show (if lo < hi then _ else _) = _
 rw [if_pos h, if_pos hp]
theorem bsB_false (p : Nat → Bool) (k lo hi : Nat) (h : lo < hi) (hk : hi - lo ≤ k) (hp : p ((lo + hi) / 2) = false) : bsB p k lo hi = bsB p k ((lo + hi) / 2 + 1) hi := by
 obtain ⟨k, rfl⟩ : ∃ m, k = m + 1 := ⟨k - 1, by omega⟩
 rw [bsB_more p k ((lo + hi) / 2 + 1) hi (by omega) 1]
 show (if lo < hi then _ else _) = _
 rw [if_pos h, if_neg (by rw [hp]; simp)]
/-- Below the answer it says no just ahead; at the answer, if there is one, yes. -/
theorem bsB_spec (p : Nat → Bool) (n : Nat) : ∀ (k lo hi : Nat) (_ : hi - lo ≤ k) (_ : lo ≤ hi) (_ : hi ≤ n) (_ : 0 < lo → p (lo - 1) = false) (_ : hi < n → p hi = true),
  bsB p k lo hi ≤ n ∧ (0 < bsB p k lo hi → p (bsB p k lo hi - 1) = false) ∧ (bsB p k lo hi < n → p (bsB p k lo hi) = true)
 | 0, lo, hi, h, h1, h2, h3, h4 => by
  rw [bsB_end p _ _ _ (by omega)]
  obtain rfl : lo = hi := by omega
  exact ⟨h2, h3, h4⟩
 | k + 1, lo, hi, h, h1, h2, h3, h4 => by
  unfold bsB
  split
  ·rename_i hlt
   split
   ·rename_i hp
    exact bsB_spec p n k _ _ (by omega) (by omega) (by omega) h3 (fun _ => hp)
   ·rename_i hp
    exact bsB_spec p n k _ _ (by omega) (by omega) h2 (fun _ => by simpa using hp) h4
  ·obtain rfl : lo = hi := by omega
   exact ⟨h2, h3, h4⟩
theorem searchB_spec (p : Nat → Bool) (n : Nat) : searchB p n ≤ n ∧ (0 < searchB p n → p (searchB p n - 1) = false) ∧ (searchB p n < n → p (searchB p n) = true) :=
 bsB_spec p n n 0 n (by omega) (Nat.zero_le _) (Nat.le_refl _) (fun h => absurd h (Nat.lt_irrefl 0)) (fun h => absurd h (Nat.lt_irrefl n))
set_option maxHeartbeats 2000000 in
theorem search_any (g : Nat) (lb : Array Value) (eg : ∀ args w, (callFunc g args).run Tryz.prog w = .ok (.enter g args) w) (p : Nat → Bool) (n : Nat) (hn : n ≤ 1000000000) (w : World)
  (hp : ∀ i, i < n → ∀ W, Below w.heap.size w W → Calls Tryz.prog g (#[.int .i64 (i : Int)] ++ lb) W fun e w' => e = .returned (.bool (p i)) ∧ Below W.heap.size W w') :
  Calls Tryz.prog 150 #[.int .i64 (n : Int), .func (.func g) #[] lb] w fun e w' => e = .returned (.int .i64 (searchB p n : Nat)) ∧ Below w.heap.size w w' := by
 go_enter Tryz.func150, Tryz.ntmps150
 go_wp2_with fail
 go_loopw [5, 6] (fun v5 v6 wr => ∃ lo hi : Nat, v5 = .int .i64 lo ∧ v6 = .int .i64 hi ∧ lo ≤ hi ∧ hi ≤ n ∧ Below w.heap.size w wr ∧ Aside (bsB p n lo hi = searchB p n)) (fun v5 v6 _ => (intOf v6).toNat - (intOf v5).toNat)
 case atStart => exact ⟨0, n, rfl, rfl, by omega, by omega, Below.refl _ _, rfl⟩
 case round =>
  obtain ⟨lo, hi, rfl, rfl, h1, h2, hB, hS⟩ := hrel
  by_cases hlt : lo < hi
  ·have hc := hp ((lo + hi) / 2) (by omega) wr hB
   have ht := fun h => show Aside (bsB p n lo ((lo + hi) / 2) = searchB p n) from (bsB_true p n lo hi hlt (by omega) h).symm.trans hS.out
   have hf := fun h => show Aside (bsB p n ((lo + hi) / 2 + 1) hi = searchB p n) from (bsB_false p n lo hi hlt (by omega) h).symm.trans hS.out
   have hm1 : lo ≤ (lo + hi) / 2 := by omega
   have hm2 : (lo + hi) / 2 < hi := by omega
   rw [show (((lo + hi) / 2 : Nat) : Int) = ((lo : Int) + (hi : Int)) / 2 by omega] at hc
   cases hq : p ((lo + hi) / 2) with
   | true =>
    replace ht := ht hq
    rw [hq] at hc
    clear hf hq hS
    go_wp2_with fail
    refine hc.mono ?_
    rintro e w' ⟨rfl, hb⟩
    go_wp2_with fail
    go_roundw
    case measure => simp [intOf]; omega
    case rel => exact ⟨lo, (lo + hi) / 2, rfl, by rw [show ((lo : Int) + (hi : Int)) / 2 = (((lo + hi) / 2 : Nat) : Int) by omega], by omega, by omega, below_step hB hb, ht⟩
   | false =>
    replace hf := hf hq
    rw [hq] at hc
    clear ht hq hS
    go_wp2_with fail
    refine hc.mono ?_
    rintro e w' ⟨rfl, hb⟩
    go_wp2_with fail
    go_roundw
    case measure => simp [intOf]; omega
    case rel => exact ⟨(lo + hi) / 2 + 1, hi, by rw [show ((lo : Int) + (hi : Int)) / 2 + 1 = (((lo + hi) / 2 + 1 : Nat) : Int) by omega], rfl, by omega, by omega, below_step hB hb, hf⟩
  ·have hE : Hid (searchB p n = lo) := Lib.hid (by rw [← hS.out, bsB_end p _ _ _ hlt])
   clear hS
   go_wp2_with fail
   go_ret
   exact ⟨by rw [hE.out]; rfl, hB⟩
def fitB (gs : List X.S30) (kind : Int) (l : List X.S55) (x : ByteArray) (n : Int) : Bool := goB gs kind (l ++ [⟨x, n⟩])
def manyB (gs : List X.S30) (kind : Int) (l : List X.S55) (x : ByteArray) (cnt : Int) : Nat := searchB (fun i => !fitB gs kind l x ((i : Int) + 1)) (if cnt < 1048576 then cnt else 1048576).toNat
set_option maxHeartbeats 2000000 in
theorem many1_any (t : Nat) (gs : List X.S30) (mk : ByteArray) (kind : Int) (A : Option Addr) (c : Nat) (l : List X.S55) (x : ByteArray) (m : Int) (n : Nat) (hn : n < 1048576) (b1 b2 b3 : Nat) (w : World) (ht : TC w t gs) (hr : LC w A l) (hl : l.length ≤ 99999) (hx : x.size ≤ 9223372036854775807)
  (h1 : w.heap[b1]? = some (.cells #[.pointer (some ⟨t, 0, none⟩)] 31 (0, 0))) (h2 : w.heap[b2]? = some (.cells #[.string mk, .int .i64 kind, .slice A l.length c] 44 (0, 0))) (h3 : w.heap[b3]? = some (.cells #[.string x, .int .i64 m] 55 (0, 0))) :
  Calls Tryz.prog 149 #[.int .i64 (n : Int), .pointer (some ⟨b1, 0, none⟩), .pointer (some ⟨b2, 0, none⟩), .pointer (some ⟨b3, 0, none⟩)] w fun e w' => e = .returned (.bool (!fitB gs kind l x ((n : Int) + 1))) ∧ Below w.heap.size w w' := by
 have cF := Fits_any t gs mk kind A c l ⟨x, (n : Int) + 1⟩ w ht hr hl hx
 unfold lotV at cF
 have c1 := (blk_cell h1 0).trans rfl
 have k0 := (blk_cell h2 0).trans rfl
 have k1 := (blk_cell h2 1).trans rfl
 have k2 := (blk_cell h2 2).trans rfl
 have x0 := (blk_cell h3 0).trans rfl
 clear h1 h2 h3 ht hr
 go_enter Tryz.func149, Tryz.ntmps149
 go_wp2_with fail
 refine cF.mono ?_
 rintro e w' ⟨rfl, hb⟩
 go_wp2_with fail
 go_ret
 exact ⟨rfl, hb⟩
attribute [local go_sem] max2_int min2_int max_two min_two
set_option maxHeartbeats 2000000 in
theorem many_any (t : Nat) (gs : List X.S30) (mk : ByteArray) (kind : Int) (A : Option Addr) (c : Nat) (l : List X.S55) (x : ByteArray) (m : Int) (hm : 0 < m) (w : World) (ht : TC w t gs) (hr : LC w A l) (hl : l.length ≤ 99999) (hx : x.size ≤ 9223372036854775807) :
  Calls Tryz.prog 119 #[.pointer (some ⟨t, 0, none⟩), .agg #[.string mk, .int .i64 kind, .slice A l.length c], .agg #[.string x, .int .i64 m]] w fun e w' => e = .returned (.int .i64 (manyB gs kind l x m : Nat)) ∧ Below w.heap.size w w' := by
 have eg := enters_of Tryz.func149 (by kernel_rfl) rfl
 have hU : Below w.heap.size w (((w.alloc (.cells #[.pointer (some ⟨t, 0, none⟩)] 31)).alloc (.cells #[.string mk, .int .i64 kind, .slice A l.length c] 44)).alloc (.cells #[.string x, .int .i64 m] 55)) := below_alloc (below_alloc (below_alloc (Below.refl _ _) _) _) _
 have h1 : (((w.alloc (.cells #[.pointer (some ⟨t, 0, none⟩)] 31)).alloc (.cells #[.string mk, .int .i64 kind, .slice A l.length c] 44)).alloc (.cells #[.string x, .int .i64 m] 55)).heap[w.heap.size]? = some (.cells #[.pointer (some ⟨t, 0, none⟩)] 31 (0, 0)) := blk_alloc (blk_alloc (blk_new w _) _) _
 have h2 : (((w.alloc (.cells #[.pointer (some ⟨t, 0, none⟩)] 31)).alloc (.cells #[.string mk, .int .i64 kind, .slice A l.length c] 44)).alloc (.cells #[.string x, .int .i64 m] 55)).heap[w.heap.size + 1]? = some (.cells #[.string mk, .int .i64 kind, .slice A l.length c] 44 (0, 0)) := blk_alloc (by have := blk_new (w.alloc (.cells #[.pointer (some ⟨t, 0, none⟩)] 31)) (.cells #[.string mk, .int .i64 kind, .slice A l.length c] 44); simpa using this) _
 have h3 : (((w.alloc (.cells #[.pointer (some ⟨t, 0, none⟩)] 31)).alloc (.cells #[.string mk, .int .i64 kind, .slice A l.length c] 44)).alloc (.cells #[.string x, .int .i64 m] 55)).heap[w.heap.size + 1 + 1]? = some (.cells #[.string x, .int .i64 m] 55 (0, 0)) := by
  have := blk_new ((w.alloc (.cells #[.pointer (some ⟨t, 0, none⟩)] 31)).alloc (.cells #[.string mk, .int .i64 kind, .slice A l.length c] 44)) (.cells #[.string x, .int .i64 m] 55)
  simpa using this
 obtain ⟨k, hk1, hk2⟩ : ∃ k : Nat, (if m < 1048576 then m else 1048576) = (k : Int) ∧ k ≤ 1048576 := ⟨(if m < 1048576 then m else 1048576).toNat, by split <;> omega, by split <;> omega⟩
 have hM := Lib.hid (show manyB gs kind l x m = searchB (fun i => !fitB gs kind l x ((i : Int) + 1)) k by unfold manyB; rw [hk1]; rfl)
 have cS := search_any _ #[.pointer (some ⟨w.heap.size, 0, none⟩), .pointer (some ⟨w.heap.size + 1, 0, none⟩), .pointer (some ⟨w.heap.size + 1 + 1, 0, none⟩)] eg (fun i => !fitB gs kind l x ((i : Int) + 1)) k (by omega) _
  (fun i hi W hW => by simpa using many1_any t gs mk kind A c l x m i (by omega) w.heap.size (w.heap.size + 1) (w.heap.size + 1 + 1) W (ht.below (hU.trans (hW.mono hU.size))) (hr.below (hU.trans (hW.mono hU.size))) hl hx (blk_below h1 hW) (blk_below h2 hW) (blk_below h3 hW))
 have x1 := (blk_cell h3 1).trans rfl
 clear h1 h2 h3 ht hr hl
 by_cases hq : 1048576 < m
 ·rw [show (k : Int) = 1048576 by rw [← hk1, if_neg (by omega)]] at cS
  clear hk1
  go_enter Tryz.func119, Tryz.ntmps119
  go_wp2_with fail
  refine cS.mono ?_
  rintro e w' ⟨rfl, hb⟩
  go_wp2_with fail
  go_ret
  exact ⟨by rw [hM.out]; rfl, below_step hU hb⟩
 ·rw [show (k : Int) = m by rw [← hk1]; split <;> omega] at cS
  clear hk1
  go_enter Tryz.func119, Tryz.ntmps119
  go_wp2_with fail
  refine cS.mono ?_
  rintro e w' ⟨rfl, hb⟩
  go_wp2_with fail
  go_ret
  exact ⟨by rw [hM.out]; rfl, below_step hU hb⟩
end Go.Proofs.YtfflbeenkfaemaaGreatDoor.Ext
namespace Go.Proofs.YtfflbeenkfaemaaGreatDoor.Ext
open Go.RowKit Go.Proofs.YtfflbeenkfaemaaGreatDoorW.PrintWords Go.Proofs.YtfflbeenkfaemaaGreatDoorW.PrintLast
/-- What a call of fill leaves: its lots' row longer by one lot, and the box's cell for it. -/
def FillPost (w w' : World) (g o base : Nat) (v : Value) (l : List X.S55) (x : ByteArray) (k : Nat) : Prop :=
 if k = 0 then Below w.heap.size w w' else ∃ W1 v1, w' = W1.setCell ⟨g, o + 2, none⟩ v1 ∧ Kd.R X.k55 55 W1 base (fun _ => True) v1 (l ++ [⟨x, (k : Int)⟩]) ∧ w.grownBy W1 v.ownBlock ∧ (v1.ownBlock = v.ownBlock ∨ ∃ b, v1.ownBlock = some b ∧ w.heap.size ≤ b)
theorem manyB_le (gs : List X.S30) (kind : Int) (l : List X.S55) (x : ByteArray) (m : Int) (hm : 0 < m) : (manyB gs kind l x m : Int) ≤ m ∧ (manyB gs kind l x m : Int) ≤ 1048576 := by
 have h := (searchB_spec (fun i => !fitB gs kind l x ((i : Int) + 1)) (if m < 1048576 then m else 1048576).toNat).1
 unfold manyB
 split at h <;> rename_i h2
 ·rw [if_pos h2]; omega
 ·rw [if_neg h2]; omega
set_option maxHeartbeats 4000000 in
set_option maxRecDepth 100000 in
theorem fill_any (t : Nat) (gs : List X.S30) (mk : ByteArray) (kind : Int) (g o base : Nat) (v : Value) (l : List X.S55) (x : ByteArray) (m : Int) (hm : 0 < m) (hm2 : m ≤ 9223372036854775807) (w : World) (ht : TC w t gs) (arr : Array Value) (hg : w.heap[g]? = some (.cells arr 44 (0, 0)))
  (c0 : w.cell? ⟨g, o, none⟩ = some (.string mk)) (c1 : w.cell? ⟨g, o + 1, none⟩ = some (.int .i64 kind)) (c2 : w.cell? ⟨g, o + 2, none⟩ = some v) (HO : Kd.R X.k55 55 w base (fun _ => True) v l) (hbase : base ≤ w.heap.size) (hl : l.length ≤ 99998) (hs : ∀ y ∈ l, y.f0.size ≤ 9223372036854775807) (hx : x.size ≤ 9223372036854775807) :
  Calls Tryz.prog 84 #[.pointer (some ⟨t, 0, none⟩), .pointer (some ⟨g, o, none⟩), .agg #[.string x, .int .i64 m]] w fun e w' => e = .returned (.int .i64 (m - (manyB gs kind l x m : Nat))) ∧ FillPost w w' g o base v l x (manyB gs kind l x m) := by
 obtain ⟨A, c, rfl⟩ := Kd.R_slice HO
 have hle := manyB_le gs kind l x m hm
 have hne5' : some w.heap.size ≠ (Value.slice A l.length c).ownBlock := fun e => by
  obtain ⟨inner, ho⟩ := Kd.R_own HO
  have := own_lt ho _ e.symm
  omega
 have cM0 := fun W (h1 : TC W t gs) (h2 : LC W A l) => many_any t gs mk kind A c l x m hm W h1 h2 (by omega) hx
 generalize manyB gs kind l x m = k at hle cM0 ⊢
 have hBL : Below w.heap.size w (w.alloc (.cells #[.string x, .int .i64 m] 55)) := below_alloc (Below.refl _ _) _
 have hb5 := blk_new w (.cells #[.string x, .int .i64 m] 55)
 go_enter Tryz.func84, Tryz.ntmps84
 go_wp2_with fail
 have c0L := keepw hBL c0
 have c1L := keepw hBL c1
 have c2L := keepw hBL c2
 have htL := ht.below hBL
 have hgL := blk_below hg hBL
 have HOL := Kd.R_below HO hBL
 have hgne : g ≠ w.heap.size := Nat.ne_of_lt (blk_lt hg)
 clear ht hg c0 c1 c2 HO
 generalize w.heap.size = g5 at hb5 hgne hne5' ⊢
 generalize hW0 : w.alloc (.cells #[.string x, .int .i64 m] 55) = W0 at hBL hb5 c0L c1L c2L htL hgL HOL ⊢
 have x0 := (blk_cell hb5 0).trans rfl
 have x1 := (blk_cell hb5 1).trans rfl
 have cM := fun W (hW : Below W0.heap.size W0 W) => cM0 W (htL.below hW) ⟨(Kd.R_reads' (Kd.R_below HOL hW)).2.2, by omega, hs⟩
 refine start_ (n := 7) (S := fun w' => w'.cell? ⟨g, o, none⟩ = some (.string mk) ∧ w'.cell? ⟨g, o + 1, none⟩ = some (.int .i64 kind) ∧ w'.cell? ⟨g, o + 2, none⟩ = some (.slice A l.length c) ∧ w'.cell? ⟨g5, 0, none⟩ = some (.string x) ∧ w'.cell? ⟨g5, 1, none⟩ = some (.int .i64 m)) (ds := []) (bA 7 0) (by kernel_rfl) rfl rfl ?_ (fun hHeld => ?_)
 ·exact ⟨c0L, c1L, c2L, x0, x1⟩
 have hH := hHeld
 have hBd : Below W0.heap.size W0 W0.drew := below_drew (Below.refl _ _)
 refine pure_ (i := 0) (N := some 8) (v := ?_) (a' := ?_) (bA 7 1) rfl rfl (by kernel_rfl) (fun _ _ _ h => h) (Or.inl ⟨by rfl, ?_⟩) ?_ ?_
 rotate_left
 ·intro w'
  go_simp
  with_reducible rfl
 rotate_left
 ·simp only [Act.put, List.setIfInBounds_toArray, List.set_cons_zero, List.set_cons_succ]
  rfl
 refine pure_ (i := 1) (N := some 9) (v := ?_) (a' := ?_) (bA 7 3) rfl rfl (by kernel_rfl) (fun _ _ _ h => h) (Or.inl ⟨by rfl, ?_⟩) ?_ ?_
 rotate_left
 ·intro w'
  go_simp
  with_reducible rfl
 rotate_left
 ·simp only [Act.put, List.setIfInBounds_toArray, List.set_cons_zero, List.set_cons_succ]
  rfl
 refine pure_ (i := 2) (N := some 10) (v := ?_) (a' := ?_) (bA 7 7) rfl rfl (by kernel_rfl) (fun _ _ _ h => h) (Or.inl ⟨by rfl, ?_⟩) ?_ ?_
 rotate_left
 ·intro w'
  go_simp
  with_reducible rfl
 rotate_left
 ·simp only [Act.put, List.setIfInBounds_toArray, List.set_cons_zero, List.set_cons_succ]
  rfl
 refine take_ (i := 3) (N := some 11) (v := ?_) (a' := ?_) (bA 7 15) rfl rfl (by kernel_rfl) (fun _ _ _ h => h) (Or.inl ⟨by rfl, ?_⟩) hHeld ?_ ?_
 rotate_left
 ·rintro w' ⟨s0, s1, s2, s3, s4⟩
  go_simp
  with_reducible rfl
 rotate_left
 ·simp only [Act.put, List.setIfInBounds_toArray, List.set_cons_zero, List.set_cons_succ]
  rfl
 refine take_ (i := 4) (N := some 12) (v := ?_) (a' := ?_) (bA 7 31) rfl rfl (by kernel_rfl) (fun _ _ _ h => h) (Or.inl ⟨by rfl, ?_⟩) hHeld ?_ ?_
 rotate_left
 ·rintro w' ⟨s0, s1, s2, s3, s4⟩
  go_simp
  with_reducible rfl
 rotate_left
 ·simp only [Act.put, List.setIfInBounds_toArray, List.set_cons_zero, List.set_cons_succ]
  rfl
 refine one_ (i := 5) (N := some 13) (bA 7 63) rfl rfl (by kernel_rfl) (by decide) (fun K hK => ?_)
 refine goes_ Tryz.func119 (by kernel_rfl) rfl #[.pointer (some ⟨t, 0, none⟩), .agg #[.string mk, .int .i64 kind, .slice A l.length c], .agg #[.string x, .int .i64 m]] (by rfl) rfl rfl (by (try simp only [List.map_toArray, List.map_cons, List.map_nil]); first | done | rfl) ?_
 refine (cM _ hBd).mono ?_
 rintro e W1 ⟨rfl, hbc⟩
 refine ⟨_, rfl, ?_⟩
 have hB1 := below_step hBd hbc
 refine hK.out _ _ ⟨keepw hB1 c0L, keepw hB1 c1L, keepw hB1 c2L, keepw hB1 x0, keepw hB1 x1⟩ (fun hHeld => ?_)
 clear hK K
 refine norm_ (a' := ?_) ?_ ?_
 rotate_left
 ·show Act.put _ (some 13) _ = _
  simp only [Act.put, List.setIfInBounds_toArray, List.set_cons_zero, List.set_cons_succ]
  rfl
 refine pure_ (i := 6) (N := some 7) (v := ?_) (a' := ?_) (bA 7 127) rfl rfl (by kernel_rfl) (fun _ _ _ h => h) (Or.inl ⟨by rfl, ?_⟩) ?_ ?_
 rotate_left
 ·intro w'
  go_simp
  with_reducible rfl
 rotate_left
 ·simp only [Act.put, List.setIfInBounds_toArray, List.set_cons_zero, List.set_cons_succ]
  rfl
 refine done_ (by kernel_rfl) ?_
 obtain ⟨s0, s1, s2, s3, s4⟩ := hHeld
 have hgW := blk_below hgL hB1
 have HOW := Kd.R_below HOL hB1
 have hBW := below_step hBL hB1
 have hb5W := blk_below hb5 hB1
 clear hH c0L c1L c2L x0 x1 cM cM0 hbc hBd hgL htL HOL hb5
 obtain ⟨hk1, hk2⟩ := hle
 by_cases hk : k = 0
 ·subst hk
  go_wp2_with fail
  go_ret
  exact ⟨by simp, by unfold FillPost; rw [if_pos rfl]; exact hBW⟩
 ·have hkp : (0 : Int) < (k : Int) := by omega
  replace hk := Lib.hid hk
  go_wp2_with fail
  refine start_ (n := 14) (S := fun w' => w'.cell? ⟨g, o, none⟩ = some (.string mk) ∧ w'.cell? ⟨g, o + 1, none⟩ = some (.int .i64 kind) ∧ w'.cell? ⟨g, o + 2, none⟩ = some (.slice A l.length c) ∧ w'.cell? ⟨g5, 0, none⟩ = some (.string x) ∧ w'.cell? ⟨g5, 1, none⟩ = some (.int .i64 m)) (ds := [13]) (bA 14 0) (by kernel_rfl) rfl rfl ?_ (fun hHeld => ?_)
  ·exact ⟨s0, s1, s2, s3, s4⟩
  have hBd : Below W1.heap.size W1 W1.drew := below_drew (Below.refl _ _)
  have HO2 := Kd.R_below HOW hBd
  have hg2 := blk_below hgW hBd
  have hB2 := below_step hBW hBd
  have hb52 := blk_below hb5W hBd
  clear HOW hgW hBW s0 s1 s2 s3 s4 hb5W
  generalize W1.drew = W2 at hHeld HO2 hg2 hB2 hb52 ⊢
  refine pure_ (i := 0) (N := some 16) (v := ?_) (a' := ?_) (bA 14 1) rfl rfl (by kernel_rfl) (fun _ _ _ h => h) (Or.inl ⟨by rfl, ?_⟩) ?_ ?_
  rotate_left
  ·intro w'
   go_simp
   with_reducible rfl
  rotate_left
  ·simp only [Act.put, List.setIfInBounds_toArray, List.set_cons_zero, List.set_cons_succ]
   rfl
  refine pure_ (i := 1) (N := some 17) (v := ?_) (a' := ?_) (bA 14 3) rfl rfl (by kernel_rfl) (fun _ _ _ h => h) (Or.inl ⟨by rfl, ?_⟩) ?_ ?_
  rotate_left
  ·intro w'
   go_simp
   with_reducible rfl
  rotate_left
  ·simp only [Act.put, List.setIfInBounds_toArray, List.set_cons_zero, List.set_cons_succ]
   rfl
  refine pure_ (i := 2) (N := some 18) (v := ?_) (a' := ?_) (bA 14 7) rfl rfl (by kernel_rfl) (fun _ _ _ h => h) (Or.inl ⟨by rfl, ?_⟩) ?_ ?_
  rotate_left
  ·intro w'
   go_simp
   with_reducible rfl
  rotate_left
  ·simp only [Act.put, List.setIfInBounds_toArray, List.set_cons_zero, List.set_cons_succ]
   rfl
  refine pure_ (i := 3) (N := some 19) (v := ?_) (a' := ?_) (bA 14 15) rfl rfl (by kernel_rfl) (fun _ _ _ h => h) (Or.inl ⟨by rfl, ?_⟩) ?_ ?_
  rotate_left
  ·intro w'
   go_simp
   with_reducible rfl
  rotate_left
  ·simp only [Act.put, List.setIfInBounds_toArray, List.set_cons_zero, List.set_cons_succ]
   rfl
  refine take_ (i := 4) (N := some 20) (v := ?_) (a' := ?_) (bA 14 31) rfl rfl (by kernel_rfl) (fun _ _ _ h => h) (Or.inl ⟨by rfl, ?_⟩) hHeld ?_ ?_
  rotate_left
  ·rintro w' ⟨s0, s1, s2, s3, s4⟩
   go_simp
   with_reducible rfl
  rotate_left
  ·simp only [Act.put, List.setIfInBounds_toArray, List.set_cons_zero, List.set_cons_succ]
   rfl
  refine pure_ (i := 5) (N := some 21) (v := ?_) (a' := ?_) (bA 14 63) rfl rfl (by kernel_rfl) (fun _ _ _ h => h) (Or.inl ⟨by rfl, ?_⟩) ?_ ?_
  rotate_left
  ·intro w'
   go_simp
   with_reducible rfl
  rotate_left
  ·simp only [Act.put, List.setIfInBounds_toArray, List.set_cons_zero, List.set_cons_succ]
   rfl
  refine take_ (i := 6) (N := some 22) (v := ?_) (a' := ?_) (bA 14 127) rfl rfl (by kernel_rfl) (fun _ _ _ h => h) (Or.inl ⟨by rfl, ?_⟩) hHeld ?_ ?_
  rotate_left
  ·rintro w' ⟨s0, s1, s2, s3, s4⟩
   go_simp
   with_reducible rfl
  rotate_left
  ·simp only [Act.put, List.setIfInBounds_toArray, List.set_cons_zero, List.set_cons_succ]
   rfl
  refine pure_ (i := 7) (N := some 23) (v := ?_) (a' := ?_) (bA 14 255) rfl rfl (by kernel_rfl) (fun _ _ _ h => h) (Or.inl ⟨by rfl, ?_⟩) ?_ ?_
  rotate_left
  ·intro w'
   go_simp
   with_reducible rfl
  rotate_left
  ·simp only [Act.put, List.setIfInBounds_toArray, List.set_cons_zero, List.set_cons_succ]
   rfl
  refine pure_ (i := 8) (N := some 24) (v := ?_) (a' := ?_) (bA 14 511) rfl rfl (by kernel_rfl) (fun _ _ _ h => h) (Or.inl ⟨by rfl, ?_⟩) ?_ ?_
  rotate_left
  ·intro w'
   go_simp
   with_reducible rfl
  rotate_left
  ·simp only [Act.put, List.setIfInBounds_toArray, List.set_cons_zero, List.set_cons_succ]
   rfl
  refine one_ (i := 9) (N := some 25) (bA 14 1023) rfl rfl (by kernel_rfl) (by decide) (fun K hK => ?_)
  refine value_ (by rfl) rfl (by go_simp; first | done | exact ⟨rfl, rfl⟩ | rfl) ?_
  have hU3 : Below W2.heap.size W2 (W2.alloc (.cells #[.string x, .int .i64 (k : Int)] 55)) := below_alloc (Below.refl _ _) _
  have hn3 := blk_new W2 (.cells #[.string x, .int .i64 (k : Int)] 55)
  generalize W2.alloc (.cells #[.string x, .int .i64 (k : Int)] 55) = W3 at hU3 hn3 ⊢
  refine hK.out _ _ ⟨keepw hU3 hHeld.1, keepw hU3 hHeld.2.1, keepw hU3 hHeld.2.2.1, keepw hU3 hHeld.2.2.2.1, keepw hU3 hHeld.2.2.2.2⟩ (fun hHeld => ?_)
  clear hK K
  refine norm_ (a' := ?_) ?_ ?_
  rotate_left
  ·show Act.put _ (some 25) _ = _
   simp only [Act.put, List.setIfInBounds_toArray, List.set_cons_zero, List.set_cons_succ]
   rfl
  have HO3 := Kd.R_below HO2 hU3
  have hg3 := blk_below hg2 hU3
  have hB3 := below_step hB2 hU3
  have hb53 := blk_below hb52 hU3
  refine one_ (i := 10) (N := some 26) (bA 14 2047) rfl rfl (by kernel_rfl) (by decide) (fun K hK => ?_)
  refine Kd.R_append_rows_step X.k55 (w0 := W3) base (by rfl) (.tmp 20) (.tmp 25) 35 55 (.agg #[.string ⟨#[]⟩, .int .i64 0]) 24 rfl Tryz.underlying35 X.info55 rfl (by decide) (by omega) (.slice A l.length c) l [(⟨x, (k : Int)⟩ : X.S55)] _ 1 _ (fun _ => True) (fun _ => False) rfl rfl HO3 (C_one W3 W2.heap.size x (k : Int) ((blk_cell hn3 0).trans rfl) ((blk_cell hn3 1).trans rfl)) (fun _ _ h => h) (fun _ h => h.elim) (fun _ _ => trivial) (Below.refl _ _) (Nat.le_trans hbase hB3.size) (by omega) ?_
  intro v4 W4 HO4 hB4 hg4 ht4
  have hne4 : some g ≠ (Value.slice A l.length c).ownBlock := Kd.R_ne HO3 hg3 (by decide)
  have hg4b := blk_grown hg3 hg4 hne4
  have cellK : ∀ (p : Addr) (u : Value), p.block = g ∨ p.block = g5 → W3.cell? p = some u → (some p.block ≠ (Value.slice A l.length c).ownBlock) → W4.cell? p = some u := fun p u _ hc hne => by
   have e := hg4.block p.block (World.block_lt_of_cell? W3 _ hc) hne
   unfold World.cell? at hc ⊢
   rw [e]
   exact hc
  have hne5 : some g5 ≠ (Value.slice A l.length c).ownBlock := hne5'
  refine hK.out _ _ ⟨cellK _ _ (.inl rfl) hHeld.1 hne4, cellK _ _ (.inl rfl) hHeld.2.1 hne4, cellK _ _ (.inl rfl) hHeld.2.2.1 hne4, cellK _ _ (.inr rfl) hHeld.2.2.2.1 hne5, cellK _ _ (.inr rfl) hHeld.2.2.2.2 hne5⟩ (fun hHeld => ?_)
  clear hK K cellK
  refine norm_ (a' := ?_) ?_ ?_
  rotate_left
  ·show Act.put _ (some 26) _ = _
   simp only [Act.put, List.setIfInBounds_toArray, List.set_cons_zero, List.set_cons_succ]
   rfl
  have hb54 := blk_grown hb53 hg4 hne5
  obtain ⟨A4, c4, rfl⟩ := Kd.R_slice HO4
  have hc4 := hHeld.2.2.1
  have hf4 := blk_frozen hg4b (o + 2)
  refine pure_ (i := 11) (N := some 27) (v := ?_) (a' := ?_) (bA 14 4095) rfl rfl (by kernel_rfl) (fun _ _ _ h => h) (Or.inl ⟨by rfl, ?_⟩) ?_ ?_
  rotate_left
  ·intro w'
   go_simp
   with_reducible rfl
  rotate_left
  ·simp only [Act.put, List.setIfInBounds_toArray, List.set_cons_zero, List.set_cons_succ]
   rfl
  refine pure_ (i := 12) (N := some 28) (v := ?_) (a' := ?_) (bA 14 8191) rfl rfl (by kernel_rfl) (fun _ _ _ h => h) (Or.inl ⟨by rfl, ?_⟩) ?_ ?_
  rotate_left
  ·intro w'
   go_simp
   with_reducible rfl
  rotate_left
  ·simp only [Act.put, List.setIfInBounds_toArray, List.set_cons_zero, List.set_cons_succ]
   rfl
  refine last_ (i := 13) (N := none) (bA 14 16383) rfl rfl (by kernel_rfl) (by decide) (fun K hK => ?_)
  refine skip_ rfl rfl (w1 := W4.setCell ⟨g, o + 2, none⟩ (.slice A4 (l ++ [(⟨x, (k : Int)⟩ : X.S55)]).length c4)) (by go_simp; first | done | rfl) ?_
  refine hK.out _ _ ?_
  clear hK K
  refine done_ (by kernel_rfl) ?_
  have hgr : w.grownBy W4 (Value.slice A l.length c).ownBlock := World.grownBy.trans (grown_of_below hB3 _) hg4
  have hat : (Value.slice A4 (l ++ [(⟨x, (k : Int)⟩ : X.S55)]).length c4).ownBlock = (Value.slice A l.length c).ownBlock ∨ ∃ b, (Value.slice A4 (l ++ [(⟨x, (k : Int)⟩ : X.S55)]).length c4).ownBlock = some b ∧ w.heap.size ≤ b := ht4.imp id (fun ⟨b, h1, h2⟩ => ⟨b, h1, Nat.le_trans hB3.size h2⟩)
  have x1 := (blk_cell (blk_far hb54 (p := ⟨g, o + 2, none⟩) hgne.symm (.slice A4 (l ++ [(⟨x, (k : Int)⟩ : X.S55)]).length c4)) 1).trans rfl
  have hpost : FillPost w (W4.setCell ⟨g, o + 2, none⟩ (.slice A4 (l ++ [(⟨x, (k : Int)⟩ : X.S55)]).length c4)) g o base (.slice A l.length c) l x k := by
   unfold FillPost
   rw [if_neg hk.out]
   exact ⟨W4, _, rfl, HO4, hgr, hat⟩
  clear hHeld HO4 hgr hat hg4b hc4 hf4 HO3 HO2 hg3 hg2
  generalize W4.setCell ⟨g, o + 2, none⟩ (.slice A4 (l ++ [(⟨x, (k : Int)⟩ : X.S55)]).length c4) = W5 at x1 hpost ⊢
  go_wp2_with fail
  go_ret
  exact ⟨rfl, hpost⟩
end Go.Proofs.YtfflbeenkfaemaaGreatDoor.Ext
