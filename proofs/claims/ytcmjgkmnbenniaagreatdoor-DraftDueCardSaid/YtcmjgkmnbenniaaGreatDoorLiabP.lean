/- Who is liable, as a sorted list: its members. -/
import Derived.Test.YtcmjgkmnbenniaaGreatDoorLiab
import Derived.Sort.KeysCollected
namespace Go.Proofs.YtcmjgkmnbenniaaGreatDoor.Ext
open Go.RowKit Go.Maps
abbrev bl (s : ByteArray) : List UInt8 := s.data.toList
/-- A map whose keys are texts, none twice. -/
def KeyStr {H : Type} (D : DataW H) : Prop := ∃ es, D = .map es ∧ es.Pairwise (fun p q => p.1 ≠ q.1) ∧ ∀ p ∈ es, ∃ x, p.1 = .string x
theorem KeyStr.nil {H : Type} : KeyStr (.map [] : DataW H) := ⟨[], rfl, List.Pairwise.nil, fun _ h => by cases h⟩
theorem KeyStr.put {H : Type} {D : DataW H} (h : KeyStr D) (s : List UInt8) (u : DataW H) : KeyStr (D.put (.string s) u) := by
  obtain ⟨es, rfl, hp, hk⟩ := h
  obtain ⟨es', he, hp'⟩ := Tidy.put ⟨es, rfl, hp⟩ (k := .string s) trivial u
  refine ⟨es', he, hp', fun p hp2 => ?_⟩
  have e2 : (DataW.map es).put (Lit.string s) u = .map (DataW.insert (Lit.string s, u) (es.filter fun p => !p.1.sameKey (Lit.string s))) := rfl
  rw [e2] at he
  injection he with he
  subst he
  rcases Go.ChangeMaps.mem_insert_iff.1 hp2 with rfl | h2
  · exact ⟨_, rfl⟩
  · exact hk _ (List.mem_filter.1 h2).1
theorem KeyStr.del {H : Type} {D : DataW H} (h : KeyStr D) (k : Lit) : KeyStr (D.del k) := by
  obtain ⟨es, rfl, hp, hk⟩ := h
  exact ⟨_, rfl, hp.filter _, fun p hp2 => hk _ (List.mem_filter.1 hp2).1⟩
theorem KeyStr.has {H : Type} {D : DataW H} (h : KeyStr D) (x : List UInt8) : x ∈ Go.strKeys D ↔ Go.Maps.has D (.string x) = true := by
  obtain ⟨es, rfl, _, hk⟩ := h
  rw [has_eq, List.any_eq_true]
  show x ∈ es.map (fun p => Go.strOf p.1) ↔ _
  rw [List.mem_map]
  constructor
  · rintro ⟨p, hp', rfl⟩
    obtain ⟨a, ha⟩ := hk p hp'
    exact ⟨p, hp', by rw [ha]; simp [Lit.sameKey, Go.strOf]⟩
  · rintro ⟨p, hp', hs⟩
    obtain ⟨a, ha⟩ := hk p hp'
    rw [ha] at hs
    exact ⟨p, hp', by rw [ha]; simpa [Lit.sameKey, Go.strOf] using hs⟩
theorem KeyStr.nodup {H : Type} {D : DataW H} (h : KeyStr D) : (Go.strKeys D).Nodup := by
  obtain ⟨es, rfl, hp, hk⟩ := h
  show (es.map fun p => Go.strOf p.1).Nodup
  refine List.pairwise_map.2 (hp.imp_of_mem fun {p q} hp' hq' hne e => hne ?_)
  obtain ⟨a, ha⟩ := hk p hp'
  obtain ⟨b, hb⟩ := hk q hq'
  rw [ha, hb] at e ⊢
  exact congrArg _ e
theorem setM_keyStr {H : Type} : ∀ (acc : List ByteArray) (m : DataW H), KeyStr m → KeyStr ((acc.map fun t => Lit.string t.data.toList).foldl (fun m x => m.put x (.lit (.bool true))) m)
  | [], _, h => h
  | _ :: r, _, h => setM_keyStr r _ (h.put _ _)
theorem setM_has {H : Type} (acc : List ByteArray) (x : List UInt8) : Go.Maps.has (setM (H := H) acc) (.string x) = true ↔ ∃ p ∈ acc, bl p = x := by
  unfold setM
  rw [has_setOf _ _ _ (fun y hy => by obtain ⟨_, _, rfl⟩ := List.mem_map.1 hy; trivial), List.any_map, List.any_eq_true]
  constructor
  · rintro ⟨t, ht, h⟩
    exact ⟨t, ht, by simpa [Lit.sameKey] using h⟩
  · rintro ⟨t, ht, rfl⟩
    exact ⟨t, ht, by simp [Lit.sameKey]⟩
theorem has_putS {H : Type} {D : DataW H} (h : KeyStr D) (s x : List UInt8) (u : DataW H) : Go.Maps.has (D.put (.string s) u) (.string x) = true ↔ x = s ∨ Go.Maps.has D (.string x) = true := by
  obtain ⟨es, he, _, _⟩ := h
  by_cases e : x = s
  · subst e
    rw [has_put_same (k := .string x) ⟨es, he⟩ trivial u]
    simp
  · rw [has_put_other (fun q => e (by injection q))]
    simp [e]
theorem has_delS {H : Type} {D : DataW H} (s x : List UInt8) : Go.Maps.has (D.del (.string s)) (.string x) = true ↔ x ≠ s ∧ Go.Maps.has D (.string x) = true := by
  by_cases e : x = s
  · subst e
    rw [has_del_same]
    simp
  · rw [has_del_other (fun q => e (by injection q))]
    simp [e]
theorem setM_key {H : Type} (acc : List ByteArray) : KeyStr (setM (H := H) acc) := setM_keyStr acc _ KeyStr.nil
theorem liabD_key (d : Dr) (b : St) : KeyStr (liabD d b) := by
  unfold liabD keyL
  split
  · exact (((setM_key _).put _ _).put _ _).del _
  · exact ((setM_key _).put _ _).del _
theorem liabD_has (d : Dr) (b : St) (x : List UInt8) : Go.Maps.has (liabD d b) (.string x) = true ↔ x ≠ bl b.holder ∧ ((∃ p ∈ b.passed, bl p = x) ∨ x = bl d.drawer ∨ (b.acc = true ∧ x = bl d.drawee)) := by
  unfold liabD keyL
  rw [has_delS]
  refine and_congr_right fun _ => ?_
  cases b.acc with
  | true =>
    rw [if_pos rfl, has_putS ((setM_key _).put _ _), has_putS (setM_key _), setM_has]
    constructor
    · rintro (h | h | h)
      · exact .inr (.inr ⟨rfl, h⟩)
      · exact .inr (.inl h)
      · exact .inl h
    · rintro (h | h | ⟨_, h⟩)
      · exact .inr (.inr h)
      · exact .inr (.inl h)
      · exact .inl h
  | false =>
    rw [if_neg (by simp), has_putS (setM_key _), setM_has]
    constructor
    · rintro (h | h)
      · exact .inr (.inl h)
      · exact .inl h
    · rintro (h | h | ⟨q, _⟩)
      · exact .inr h
      · exact .inl h
      · cases q
theorem liab_mem (d : Dr) (b : St) (x : List UInt8) : x ∈ liabL d b ↔ b.state ≠ 2 ∧ x ≠ bl b.holder ∧ ((∃ p ∈ b.passed, bl p = x) ∨ x = bl d.drawer ∨ (b.acc = true ∧ x = bl d.drawee)) := by
  unfold liabL
  split
  · rename_i h; simp [h]
  · rename_i h
    rw [List.mem_mergeSort, (liabD_key d b).has, liabD_has]
    simp [h]
theorem liab_sorted (d : Dr) (b : St) : (liabL d b).Pairwise (· < ·) := by
  unfold liabL
  split
  · exact List.Pairwise.nil
  · have tr : ∀ a b c : List UInt8, (decide (a ≤ b)) = true → (decide (b ≤ c)) = true → (decide (a ≤ c)) = true := fun a b c h1 h2 => by simp only [decide_eq_true_eq] at *; exact List.le_trans h1 h2
    have tot : ∀ a b : List UInt8, (decide (a ≤ b) || decide (b ≤ a)) = true := fun a b => by simp only [Bool.or_eq_true, decide_eq_true_eq]; exact List.le_total a b
    have h1 := List.pairwise_mergeSort tr tot (Go.strKeys (liabD d b))
    have h2 : ((Go.strKeys (liabD d b)).mergeSort (fun x y => decide (x ≤ y))).Pairwise (· ≠ ·) := ((List.mergeSort_perm _ _).nodup_iff).2 (liabD_key d b).nodup
    refine (h1.and h2).imp fun {a c} ⟨h3, h4⟩ => ?_
    simp only [decide_eq_true_eq] at h3
    rcases List.le_iff_lt_or_eq.1 h3 with q | q
    · exact q
    · exact absurd q h4
theorem sorted_ext {l l' : List (List UInt8)} (h : l.Pairwise (· < ·)) (h' : l'.Pairwise (· < ·)) (hm : ∀ x, x ∈ l ↔ x ∈ l') : l = l' := by
  have nd : ∀ {l : List (List UInt8)}, l.Pairwise (· < ·) → l.Nodup := fun h => h.imp fun {a b} (q : a < b) e => by subst e; exact List.lt_irrefl _ q
  have hp : l.Perm l' := (List.perm_ext_iff_of_nodup (nd h) (nd h')).2 hm
  exact hp.eq_of_pairwise (le := fun a b => a < b) (fun a b _ _ h1 h2 => absurd (List.lt_trans h1 h2) (List.lt_irrefl a)) h h'
/-- Who is liable are just the members of a sorted list. -/
theorem liabL_eq (d : Dr) (b : St) (L : List (List UInt8)) (hs : L.Pairwise (· < ·)) (hm : ∀ x, x ∈ L ↔ b.state ≠ 2 ∧ x ≠ bl b.holder ∧ ((∃ p ∈ b.passed, bl p = x) ∨ x = bl d.drawer ∨ (b.acc = true ∧ x = bl d.drawee))) : liabL d b = L :=
  sorted_ext (liab_sorted d b) hs fun x => (liab_mem d b x).trans (hm x).symm
theorem length_of_sub {α : Type} [DecidableEq α] : ∀ (l l' : List α), l.Nodup → (∀ x ∈ l, x ∈ l') → l.length ≤ l'.length
  | [], _, _, _ => Nat.zero_le _
  | a :: r, l', hn, h => by
    obtain ⟨h1, h2⟩ := List.nodup_cons.1 hn
    have ha : a ∈ l' := h a List.mem_cons_self
    have := length_of_sub r (l'.erase a) h2 fun x hx => (List.mem_erase_of_ne (fun e => h1 (by rw [← e]; exact hx))).2 (h x (List.mem_cons_of_mem _ hx))
    rw [List.length_erase_of_mem ha] at this
    have : 0 < l'.length := List.length_pos_of_mem ha
    simp only [List.length_cons]
    omega
theorem liab_length (d : Dr) (b : St) : (liabL d b).length ≤ b.passed.length + 2 := by
  have h : ∀ x ∈ liabL d b, x ∈ b.passed.map bl ++ [bl d.drawer, bl d.drawee] := fun x hx => by
    rcases ((liab_mem d b x).1 hx).2.2 with ⟨p, hp, rfl⟩ | rfl | ⟨_, rfl⟩
    · exact List.mem_append_left _ (List.mem_map.2 ⟨p, hp, rfl⟩)
    · simp
    · simp
  have nd : (liabL d b).Nodup := (liab_sorted d b).imp fun {a b} (q : a < b) e => by subst e; exact List.lt_irrefl _ q
  have := length_of_sub _ _ nd h
  simpa using this
end Go.Proofs.YtcmjgkmnbenniaaGreatDoor.Ext
