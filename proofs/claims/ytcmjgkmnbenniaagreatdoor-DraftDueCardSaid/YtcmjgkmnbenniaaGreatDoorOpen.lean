/- (*draft.Bill).open: the conditions, one after another. -/
import Derived.Test.YtcmjgkmnbenniaaGreatDoorBill
import Derived.Maps.AppendAt
import Derived.OwnWalk
namespace Go.Proofs.YtcmjgkmnbenniaaGreatDoor.Ext
open Go.RowKit Go.Proofs.YtcmjgkmnbenniaaGreatDoorW.PrintWords

/-- A condition: the error, the closure, what it answers. -/
structure Cond where
  (e : Int) (f : Nat) (caps : Array Value) (ok : Bool)
def Cond.cells (c : Cond) : List Value := [.int .i64 c.e, .func (.func c.f) #[] c.caps]
def firstBad : List Cond → Int
  | [] => 0
  | c :: r => if c.ok then firstBad r else c.e
theorem infoC : (Tryz.prog.info? 63).map (fun i => (i.zero, i.size, i.bytes)) = some (some (.agg #[.int .i64 0, .nilFunc]), 2, 16) := by kernel_rfl
theorem flat_cell (l : List Cond) : ∀ i c, l[i]? = some c → (l.flatMap Cond.cells)[2 * i]? = some (.int .i64 c.e) ∧ (l.flatMap Cond.cells)[2 * i + 1]? = some (.func (.func c.f) #[] c.caps) := by
  induction l with
  | nil => intro i c h; simp at h
  | cons a r ih =>
    intro i c h
    cases i with
    | zero =>
      simp only [List.getElem?_cons_zero, Option.some.injEq] at h
      subst h
      simp [Cond.cells]
    | succ i =>
      simp only [List.getElem?_cons_succ] at h
      obtain ⟨h1, h2⟩ := ih i c h
      have e1 : 2 * (i + 1) = (2 * i) + 1 + 1 := by omega
      rw [List.flatMap_cons, show Cond.cells a = [.int .i64 a.e, .func (.func a.f) #[] a.caps] from rfl, e1]
      exact ⟨by simpa using h1, by simpa using h2⟩
theorem flat_length (l : List Cond) : (l.flatMap Cond.cells).length = l.length * 2 := by
  induction l with
  | nil => rfl
  | cons a r ih => rw [List.flatMap_cons, List.length_append, ih, List.length_cons]; simp [Cond.cells]; omega
theorem flat_one (l : List Cond) : ∀ u ∈ l.flatMap Cond.cells, u.oneCell' = true := by
  intro u hu
  obtain ⟨c, _, hc⟩ := List.mem_flatMap.1 hu
  simp [Cond.cells] at hc
  rcases hc with rfl | rfl <;> rfl
def openCode (x : ByteArray) (day : Int) (b : St) (rest : List Cond) : Int := firstBad (⟨1, 0, #[], nameB x && dayB day⟩ :: ⟨6, 0, #[], decide (b.last ≤ day)⟩ :: rest)
theorem firstBad_of (l : List Cond) (h : ∀ c, c ∈ l → c.ok = true) : firstBad l = 0 := by
  induction l with
  | nil => rfl
  | cons a r ih =>
    unfold firstBad
    rw [if_pos (h a List.mem_cons_self)]
    exact ih fun c hc => h c (List.mem_cons_of_mem _ hc)
theorem firstBad_drop (l : List Cond) (k : Nat) (c : Cond) (hk : l[k]? = some c) : firstBad (l.drop k) = if c.ok then firstBad (l.drop (k + 1)) else c.e := by
  obtain ⟨hl, rfl⟩ := List.getElem?_eq_some_iff.1 hk
  rw [List.drop_eq_getElem_cons hl]
  rfl
/-- The bill behind a call that was let in, or not. -/
def lastIf (c day : Int) (b : St) : St := if c = 0 then { b with last := day } else b
/-- What the walk knows of the row of conditions. -/
structure Row (w : World) (q : Nat) (l : List Cond) : Prop where
  at_ : ∀ i c, l[i]? = some c → w.cell? ⟨q, 2 * i, none⟩ = some (.int .i64 c.e) ∧ w.cell? ⟨q, 2 * i + 1, none⟩ = some (.func (.func c.f) #[] c.caps)
  call : ∀ c, c ∈ l → ∀ W, Below w.heap.size w W → Calls Tryz.prog c.f c.caps W fun e w'' => e = .returned (.bool c.ok) ∧ Below W.heap.size W w''
  enter : ∀ c, c ∈ l → ∀ args W, (callFunc c.f args).run Tryz.prog W = .ok (.enter c.f args) W
set_option maxHeartbeats 4000000 in
set_option maxRecDepth 100000 in
theorem open_any (n : Nat) (x : ByteArray) (day : Int) (hx : x.size ≤ 9223372036854775807) (rest : List Cond) (hrl : rest.length ≤ 9) (r : Nat) (w : World) (lo g m : Nat) (d : Dr) (b : St) (h : IsBill w lo g m d b) (hlo : lo ≤ w.heap.size)
    (hr : ∀ (j : Nat) (u : Value), (rest.flatMap Cond.cells)[j]? = some u → w.cell? ((⟨r, 0, none⟩ : Addr).add j) = some u)
    (hc : ∀ c, c ∈ rest → ∀ w', Below w.heap.size w w' → Calls Tryz.prog c.f c.caps w' fun e w'' => e = .returned (.bool c.ok) ∧ Below w'.heap.size w' w'')
    (hne : ∀ c, c ∈ rest → c.e ≠ 0) (he : ∀ c, c ∈ rest → ∀ args w', (callFunc c.f args).run Tryz.prog w' = .ok (.enter c.f args) w') :
    Calls Tryz.prog 35 #[pt0 g, .string x, .int .i64 day, .slice (some ⟨r, 0, none⟩) rest.length n] w fun e w' =>
      e = .returned (.int .i64 (openCode x day b rest)) ∧ IsBill w' lo g m d (lastIf (openCode x day b rest) day b) ∧ Below lo w w' ∧ Kept w w' (fun k => k = g) := by
  obtain ⟨i0, hi, hz0, hz1, hz2⟩ : ∃ i0, Tryz.prog.info? 63 = some i0 ∧ i0.zero = some (.agg #[.int .i64 0, .nilFunc]) ∧ i0.size = 2 ∧ i0.bytes = 16 := by
    obtain ⟨i0, hi, hzz⟩ := Option.map_eq_some_iff.1 infoC
    simp only [Prod.mk.injEq] at hzz
    exact ⟨i0, hi, hzz⟩
  have hlt : Aside (∀ (j : Nat) (u : Value), (rest.flatMap Cond.cells)[j]? = some u → w.cell? ((⟨r, 0, none⟩ : Addr).add j) = some u) := hr
  have HC : Aside (∀ c, c ∈ rest → ∀ w', Below w.heap.size w w' → Calls Tryz.prog c.f c.caps w' fun e w'' => e = .returned (.bool c.ok) ∧ Below w'.heap.size w' w'') := hc
  have HE : Aside (∀ c, c ∈ rest → ∀ args w', (callFunc c.f args).run Tryz.prog w' = .ok (.enter c.f args) w') := he
  have HB : Aside (IsBill w lo g m d b) := h
  have OWN : Aside (∀ w0 : World, w0 = w → ((((w0.alloc (.cells #[pt0 g] 39)).alloc (.cells #[.string x] 9)).alloc (.cells #[.int .i64 day] 3)).alloc (.cells #[.int .i64 1, .func (.func 58) #[] #[pt0 (w0.heap.size + 1), pt0 (w0.heap.size + 1 + 1)], .int .i64 6, .func (.func 59) #[] #[pt0 (w0.heap.size + 1 + 1), pt0 w0.heap.size]] 63)).ownsRow (w0.heap.size + 3) 63 2 (.slice (some ⟨w0.heap.size + 1 + 1 + 1, 0, none⟩) 2 2) 2
      [.int .i64 1, .func (.func 58) #[] #[pt0 (w0.heap.size + 1), pt0 (w0.heap.size + 1 + 1)], .int .i64 6, .func (.func 59) #[] #[pt0 (w0.heap.size + 1 + 1), pt0 w0.heap.size]]) := by
    rintro w0 rfl
    have := World.ownsRow_lit (base := w0.heap.size + 3) (e := 63) (size := 2) (((w0.alloc (.cells #[pt0 g] 39)).alloc (.cells #[.string x] 9)).alloc (.cells #[.int .i64 day] 3)) #[.int .i64 1, .func (.func 58) #[] #[pt0 (w0.heap.size + 1), pt0 (w0.heap.size + 1 + 1)], .int .i64 6, .func (.func 59) #[] #[pt0 (w0.heap.size + 1 + 1), pt0 w0.heap.size]] 2 (by simp) (by decide) (by simp)
    simpa using this
  have NEWS : Aside (∀ W : World, Below w.heap.size w W → ∀ (j : Nat) (u : Value), (rest.flatMap Cond.cells)[j]? = some u → W.cell? ((⟨r, 0, none⟩ : Addr).add j) = some u) := fun W hW j u hj => by
    have h1 := hr j u hj
    exact (hW.cell (World.block_lt_of_cell? w _ h1)).trans h1
  have HN : Aside (∀ c, c ∈ rest → c.e ≠ 0) := hne
  clear hr hc he h hne
  go_enter Tryz.func35, Tryz.ntmps35
  go_wp2_with (at_builtin; go_loud (refine wpList_append_own_at _ rfl _ _ 91 rfl (w.heap.size + 3) 63 i0 (.agg #[.int .i64 0, .nilFunc]) 2 16 Tryz.underlying91 hi hz0 hz1 hz2 rfl (by decide) _ 2 _ rfl (OWN.out w rfl) ⟨r, 0, none⟩ rest.length n (rest.flatMap Cond.cells) rfl (flat_length rest) (NEWS.out _ (by with_reducible repeat (first | apply below_alloc | exact Below.refl _ _))) (flat_one rest) (by unfold maxLen; omega) (by omega) (by simp <;> omega) ?_))
  intro v' w1 hown hgr hnil hloc
  have hgs : w.heap.size + 4 ≤ w1.heap.size := by have := hgr.size; simp at this; omega
  have hB1 : Below w.heap.size w w1 := by
    have h3 : Below w.heap.size w ((((w.alloc (.cells #[pt0 g] 39)).alloc (.cells #[.string x] 9)).alloc (.cells #[.int .i64 day] 3)).alloc (.cells #[.int .i64 1, .func (.func 58) #[] #[pt0 (w.heap.size + 1), pt0 (w.heap.size + 1 + 1)], .int .i64 6, .func (.func 59) #[] #[pt0 (w.heap.size + 1 + 1), pt0 w.heap.size]] 63)) := by
      with_reducible repeat (first | apply below_alloc | exact Below.refl _ _)
    refine h3.grown hgr h3.size (fun k hk => ?_)
    simp only [Value.ownBlock, Option.some.injEq] at hk
    omega
  have hcell : ∀ k i v, k < 3 → (((w.alloc (.cells #[pt0 g] 39)).alloc (.cells #[.string x] 9)).alloc (.cells #[.int .i64 day] 3)).cell? ⟨w.heap.size + k, i, none⟩ = some v → w1.cell? ⟨w.heap.size + k, i, none⟩ = some v := fun k i v hk hv => by
    rw [← hv]
    refine World.cell?_of_block ?_
    show w1.heap[w.heap.size + k]? = _
    rw [hgr.block (w.heap.size + k) (by simp; omega) (by simp [Value.ownBlock]; omega)]
    exact Below.heap_alloc _ _ _ (by simp; omega)
  have hb0 : w1.cell? ⟨w.heap.size, 0, none⟩ = some (pt0 g) := hcell 0 0 _ (by omega) (by simp only [Nat.add_zero]; simp [go_sem])
  have hb1 : w1.cell? ⟨w.heap.size + 1, 0, none⟩ = some (.string x) := hcell 1 0 _ (by omega) (by simp [go_sem])
  have hb2 : w1.cell? ⟨w.heap.size + 1 + 1, 0, none⟩ = some (.int .i64 day) := hcell 2 0 _ (by omega) (by simp [go_sem])
  obtain ⟨q, cap, rfl, hq, hrow⟩ : ∃ q cap, v' = .slice (some ⟨q, 0, none⟩) (2 + rest.length) cap ∧ w.heap.size + 3 ≤ q ∧ ∀ j, j < (2 + rest.length) * 2 → w1.cell? ⟨q, j, none⟩ = (Value.int .i64 1 :: Value.func (.func 58) #[] #[pt0 (w.heap.size + 1), pt0 (w.heap.size + 1 + 1)] :: Value.int .i64 6 :: Value.func (.func 59) #[] #[pt0 (w.heap.size + 1 + 1), pt0 w.heap.size] :: rest.flatMap Cond.cells)[j]? := by
    rcases hown.2 with ⟨hv, _⟩ | ⟨q, cap, cur, hv, hq, hcur⟩
    · exact absurd hv hnil
    · subst hv
      exact ⟨q, cap, rfl, hq, fun j hj => hown.cellAt j hj⟩
  have hbill : IsBill w1 lo g m d b := HB.out.below hB1
  have hltg := HB.out.ltg
  obtain ⟨L, hL⟩ : ∃ L : List Cond, L = ⟨1, 58, #[pt0 (w.heap.size + 1), pt0 (w.heap.size + 1 + 1)], nameB x && dayB day⟩ :: ⟨6, 59, #[pt0 (w.heap.size + 1 + 1), pt0 w.heap.size], decide (b.last ≤ day)⟩ :: rest := ⟨_, rfl⟩
  have hLlen : L.length = 2 + rest.length := by rw [hL]; simp; omega
  have hcode : Hid (openCode x day b rest = firstBad L) := by show _ = _; rw [hL]; rfl
  have hLne : ∀ c, c ∈ L → c.e ≠ 0 := fun c hc => by
    rw [hL] at hc
    rcases List.mem_cons.1 hc with rfl | hc
    · simp
    · rcases List.mem_cons.1 hc with rfl | hc
      · simp
      · exact HN.out c hc
  have hR : Row w1 q L := by
    refine ⟨fun i c hi => ?_, fun c hc W hW => ?_, fun c hc args W => ?_⟩
    · have hil : i < 2 + rest.length := by rw [← hLlen]; exact (List.getElem?_eq_some_iff.1 hi).1
      have hf := flat_cell L i c hi
      have he : L.flatMap Cond.cells = Value.int .i64 1 :: Value.func (.func 58) #[] #[pt0 (w.heap.size + 1), pt0 (w.heap.size + 1 + 1)] :: Value.int .i64 6 :: Value.func (.func 59) #[] #[pt0 (w.heap.size + 1 + 1), pt0 w.heap.size] :: rest.flatMap Cond.cells := by rw [hL]; rfl
      rw [he] at hf
      exact ⟨(hrow _ (by omega)).trans hf.1, (hrow _ (by omega)).trans hf.2⟩
    · rw [hL] at hc
      have hcW : ∀ k v, w1.cell? ⟨k, 0, none⟩ = some v → W.cell? ⟨k, 0, none⟩ = some v := fun k v hv => (hW.cell (World.block_lt_of_cell? w1 _ hv)).trans hv
      rcases List.mem_cons.1 hc with rfl | hc
      · refine (open1_cond _ _ x day hx W (hcW _ _ hb1) (hcW _ _ hb2)).mono ?_
        rintro e w' ⟨rfl, rfl⟩
        exact ⟨rfl, Below.refl _ _⟩
      · rcases List.mem_cons.1 hc with rfl | hc
        · exact open2_cond _ _ day W lo g m d b (hcW _ _ hb2) (hcW _ _ hb0) (hbill.below hW)
        · exact HC.out c hc W (hB1.trans (hW.mono hB1.size))
    · rw [hL] at hc
      rcases List.mem_cons.1 hc with rfl | hc
      · exact enters_of Tryz.func58 (by kernel_rfl) rfl args W
      · rcases List.mem_cons.1 hc with rfl | hc
        · exact enters_of Tryz.func59 (by kernel_rfl) rfl args W
        · exact HE.out c hc args W
  have hlenL : 2 + rest.length = L.length := hLlen.symm
  have hL11 : L.length ≤ 11 := by omega
  have HLo : Aside (Below lo w w1) := hB1.mono hlo
  have HK : Aside (Kept w w1 (fun k => k = g)) := Kept.of_below hB1 _
  rw [hlenL]
  clear hlenL hLlen hL hrow hcell hgr hown hloc hnil OWN NEWS HB HC HE HN hB1 hi hz0 hz1 hz2 i0 hq hgs hlt
  generalize w.heap.size + 1 + 1 = b2 at *
  generalize hsz : w.heap.size = b0 at *
  go_wp2
  go_loopw [21] (fun i wr => ∃ k : Nat, k ≤ L.length ∧ i = .int .i64 k ∧ Below w1.heap.size w1 wr ∧ Aside (firstBad L = firstBad (L.drop k))) (fun i _ => L.length - (intOf i).toNat)
  case atStart => exact ⟨0, Nat.zero_le _, rfl, Below.refl _ _, rfl⟩
  case round =>
    obtain ⟨k, hk, rfl, hbel, HD⟩ := hrel
    have hwr : ∀ k v, w1.cell? ⟨k, 0, none⟩ = some v → wr.cell? ⟨k, 0, none⟩ = some v := fun k v hv => (hbel.cell (World.block_lt_of_cell? w1 _ hv)).trans hv
    by_cases hlt : k < L.length
    · obtain ⟨c, hc⟩ : ∃ c, L[k]? = some c := ⟨_, List.getElem?_eq_getElem hlt⟩
      have hcL : c ∈ L := List.mem_of_getElem? hc
      have hd := Lib.hid (firstBad_drop L k c hc)
      obtain ⟨hc0, hc1⟩ := hR.at_ k c hc
      have hd0 : wr.cell? ⟨q, 2 * k, none⟩ = some (.int .i64 c.e) := (hbel.cell (World.block_lt_of_cell? w1 _ hc0)).trans hc0
      have hd1 : wr.cell? ⟨q, 2 * k + 1, none⟩ = some (.func (.func c.f) #[] c.caps) := (hbel.cell (World.block_lt_of_cell? w1 _ hc1)).trans hc1
      have hent := hR.enter c hcL
      have hcall := hR.call c hcL
      have hmul : k * 2 = 2 * k := by omega
      have hdn := hd.out
      cases hok : c.ok with
      | true =>
        rw [hok] at hcall
        rw [hok, if_pos rfl] at hdn
        have HD2 : Aside (firstBad L = firstBad (L.drop (k + 1))) := HD.out.trans hdn
        clear hdn hd hok
        have HB2 : Aside (Below w1.heap.size w1 (wr.alloc (.cells #[.int .i64 c.e, .func (.func c.f) #[] c.caps] 63))) := hbel.alloc hbel.size _
        go_wp2_with fail
        refine (hcall _ HB2.out).mono ?_
        rintro e w' ⟨rfl, hb'⟩
        have HB3 : Aside (Below w1.heap.size w1 w') := HB2.out.trans (hb'.mono HB2.out.size)
        go_wp2_with fail
        go_round
        case measure => simp [intOf]; omega
        case rel => exact ⟨k + 1, by omega, by go_num, HB3.out, HD2⟩
      | false =>
        rw [hok] at hcall
        rw [hok, if_neg (by simp)] at hdn
        have hcode1 : Hid (openCode x day b rest = c.e) := by show _ = _; rw [hcode.out, HD.out]; exact hdn
        clear hdn hd hok
        have hce := Lib.hid (hLne c hcL)
        have HB2 : Aside (Below w1.heap.size w1 (wr.alloc (.cells #[.int .i64 c.e, .func (.func c.f) #[] c.caps] 63))) := hbel.alloc hbel.size _
        go_wp2_with fail
        refine (hcall _ HB2.out).mono ?_
        rintro e w' ⟨rfl, hb'⟩
        have HB3 : Aside (Below w1.heap.size w1 w') := HB2.out.trans (hb'.mono HB2.out.size)
        have hce2 : w'.cell? ⟨wr.heap.size, 0, none⟩ = some (.int .i64 c.e) := (hb'.cell (by simp)).trans (by simp [go_sem])
        go_wp2_with fail
        go_ret
        have hLo : Below lo w w1 := HLo.out
        have hlw1 : lo ≤ w1.heap.size := Nat.le_trans hlo (by rw [← hsz]; exact hLo.size)
        refine ⟨by rw [hcode1.out]; rfl, ?_, hLo.trans (HB3.out.mono hlw1), HK.out.below HB3.out⟩
        rw [hcode1.out, lastIf, if_neg hce.out]
        exact hbill.below HB3.out
    · have hkL : k = L.length := by omega
      subst hkL
      have hcode0 : Hid (openCode x day b rest = 0) := by show _ = _; rw [hcode.out, HD.out, List.drop_length]; rfl
      have hw0 := hwr _ _ hb0
      have hw2 := hwr _ _ hb2
      have h12 : wr.cell? ⟨g, 12, none⟩ = some (.int .i64 b.last) := (hbill.below hbel).cell 12
      have hfr : wr.frozen? ⟨g, 12, none⟩ = false := blk_frozen (hbill.below hbel).blk 12
      go_wp2_with fail
      go_ret
      have hLo : Below lo w w1 := HLo.out
      have hlw1 : lo ≤ w1.heap.size := Nat.le_trans hlo (by rw [← hsz]; exact hLo.size)
      have hw1 := hbel.size
      refine ⟨by rw [hcode0.out]; rfl, ?_, ?_, ?_⟩
      · rw [hcode0.out, lastIf, if_pos rfl]
        have hb' := hbill.below hbel
        refine ⟨?_, hb'.own.setCell hb'.ne.symm _, hb'.log, hb'.lom⟩
        have := blk_set hb'.blk 12 (.int .i64 day)
        simpa [billCells] using this
      · exact (hLo.trans (hbel.mono hlw1)).setCell (by exact hbill.log) _
      · exact (HK.out.below hbel).setCell (.inl rfl) _
end Go.Proofs.YtcmjgkmnbenniaaGreatDoor.Ext
