/- A draft among the arguments: the struct opened. -/
import Derived.Test.YtcmjgkmnbenniaaBill
import Derived.WalkKit
import Derived.ProofKit
import Derived.OpenShut
import Derived.ShutString
import Derived.ChangeOld
import Derived.Below
import Derived.Carry
import Derived.SliceStrings
namespace Go.Proofs.Ytcmjgkmnbenniaa.Ext
open Go.ChangeShapes Go.WideShapes Go.ChangeAt Go.RowKit
theorem cellsD : Try.prog.cellsOf 25 = 9 := by kernel_rfl
theorem cellsS : Try.prog.cellsOf 9 = 1 := by kernel_rfl
theorem cellsI : Try.prog.cellsOf 3 = 1 := by kernel_rfl
theorem cellsI64 : Try.prog.cellsOf 2 = 1 := by kernel_rfl
theorem cellsM : Try.prog.cellsOf 23 = 2 := by kernel_rfl
set_option maxRecDepth 100000 in
theorem open_draft {H : Type} {enc : TypeId × Value → H} {w : World} {base : Nat} {spare : Nat → Bool} {held : Bool} {r : Reach} {b0 : Nat} {v : Value} {d : DataW H} {p : List MemPlace} (hv : Value.okWide Try.prog w r b0 25 v) (h : DataW.Trod enc Try.prog w base spare held 25 v d p) :
    ∃ dr : Dr, v = .agg dr.arr := by
  obtain ⟨cs, rfl, hsz⟩ := okWide_struct Try.underlying25 hv
  obtain ⟨l⟩ := cs
  obtain ⟨fuel, hf⟩ := h
  obtain ⟨xs, n, _, hx, hlen, hxlen, hg⟩ := DataW.trod_struct Try.underlying25 hf
  have hat : ∀ (i : Nat) (f : Field) (fs : Array Field) (hfs : fs[i]? = some f) (ho : ∀ f, fs[i]? = some f → DataW.trod enc Try.prog w base spare held n f.type ((l.drop f.offset).take (Try.prog.cellsOf f.type)) = xs[i]?) (hi : i < xs.length), ∃ y, DataW.trod enc Try.prog w base spare held n f.type ((l.drop f.offset).take (Try.prog.cellsOf f.type)) = some y := fun i f fs hfs ho hi => ⟨xs[i], by rw [ho f hfs, List.getElem?_eq_getElem hi]⟩
  have hxl : xs.length = 8 := hxlen
  match l, hsz.trans cellsD with
  | [c0, c1, c2, c3, c4, c5, c6, c7, c8], _ =>
    obtain ⟨y0, e0⟩ := hat 0 _ _ rfl (hg 0) (by omega)
    obtain ⟨s0, q0, _⟩ := DataW.trod_string Try.underlying9 e0
    have z0 : c0 = .string s0 := by simpa [cellsS] using q0
    obtain ⟨y1, e1⟩ := hat 1 _ _ rfl (hg 1) (by omega)
    obtain ⟨s1, q1, _⟩ := DataW.trod_string Try.underlying9 e1
    have z1 : c1 = .string s1 := by simpa [cellsS] using q1
    obtain ⟨y2, e2⟩ := hat 2 _ _ rfl (hg 2) (by omega)
    obtain ⟨s2, q2, _⟩ := DataW.trod_string Try.underlying9 e2
    have z2 : c2 = .string s2 := by simpa [cellsS] using q2
    obtain ⟨y3, e3⟩ := hat 3 _ _ rfl (hg 3) (by omega)
    obtain ⟨s3, q3, _⟩ := DataW.trod_string Try.underlying9 e3
    have z3 : c3 = .string s3 := by simpa [cellsS] using q3
    obtain ⟨y4, e4⟩ := hat 4 _ _ rfl (hg 4) (by omega)
    obtain ⟨xs2, n2, _, _, _, hxl2, hg2⟩ := DataW.trod_struct Try.underlying23 e4
    have hxl3 : xs2.length = 2 := hxl2
    have f0 := hg2 0 _ rfl
    have f1 := hg2 1 _ rfl
    rw [List.getElem?_eq_getElem (by omega)] at f0 f1
    obtain ⟨s4, q4, _⟩ := DataW.trod_string Try.underlying9 f0
    obtain ⟨n5, q5, _⟩ := DataW.trod_int Try.underlying2 f1
    have z4 : c4 = .string s4 := by simpa [cellsS, cellsM] using q4
    have z5 : c5 = .int .i64 n5 := by simpa [cellsI64, cellsM] using q5
    obtain ⟨y5, e5⟩ := hat 5 _ _ rfl (hg 5) (by omega)
    obtain ⟨n6, q6, _⟩ := DataW.trod_int Try.underlying3 e5
    have z6 : c6 = .int .i64 n6 := by simpa [cellsI] using q6
    obtain ⟨y6, e6⟩ := hat 6 _ _ rfl (hg 6) (by omega)
    obtain ⟨n7, q7, _⟩ := DataW.trod_int Try.underlying3 e6
    have z7 : c7 = .int .i64 n7 := by simpa [cellsI] using q7
    obtain ⟨y7, e7⟩ := hat 7 _ _ rfl (hg 7) (by omega)
    obtain ⟨n8, q8, _⟩ := DataW.trod_int Try.underlying3 e7
    have z8 : c8 = .int .i64 n8 := by simpa [cellsI] using q8
    exact ⟨⟨s0, s1, s2, s3, s4, n5, n6, n7, n8⟩, by rw [z0, z1, z2, z3, z4, z5, z6, z7, z8]; rfl⟩
end Go.Proofs.Ytcmjgkmnbenniaa.Ext
