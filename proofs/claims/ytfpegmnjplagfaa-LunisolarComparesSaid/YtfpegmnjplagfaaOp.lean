/- Arguments that are structs by value, opened field by field, whatever the number of one-cell fields. -/
import Derived.Lib.SmallJoins
import Derived.Deep.Fields
namespace Go.Proofs.Ytfpegmnjplagfaa.Op
open Go.Joins Go.ChangeShapes Go.WideShapes Go.RowKit Go.Deep
variable {H : Type} {enc : TypeId × Value → H} {P : Program} {w : World} {base : Nat} {spare : Nat → Bool} {held : Bool}
/-- A struct by value: its cells, each with its own reading. -/
theorem open_agg {r : Reach} {b0 : Nat} {t : TypeId} {fs : Array Field} {v : Value} {d : DataW H} {p : List MemPlace} (hs : P.underlying t = some (.struct fs)) (hone : oneCellFields P fs = true) (hC : P.cellsOf t = fs.size)
    (hv : Value.okWide P w r b0 t v) (h : DataW.Trod enc P w base spare held t v d p) :
    ∃ cs : Array Value, v = .agg cs ∧ cs.size = fs.size ∧ ∀ (j : Nat) (f : Field), fs[j]? = some f → ∃ (c : Value) (y : DataW H × List MemPlace) (n : Nat), cs[j]? = some c ∧ DataW.trod enc P w base spare held n f.type [c] = some y := by
  obtain ⟨cs, rfl, hsz⟩ := okWide_struct hs hv
  obtain ⟨fuel, hf⟩ := h
  obtain ⟨xs, n, _, _, hl, hxl, hx⟩ := DataW.trod_struct hs hf
  refine ⟨cs, rfl, hsz.trans hC, fun j f hj => ?_⟩
  obtain ⟨ho, hk⟩ := hone_of hone j f hj
  have hjl : j < fs.size := (Array.getElem?_eq_some_iff.1 hj).1
  have hjc : j < cs.size := by rw [hsz, hC]; exact hjl
  have hjx : j < xs.length := by rw [hxl]; exact hjl
  have hj2 := hx j f hj
  have e1 : ((Value.agg cs).cells.toList.drop j).take 1 = [cs[j]] := by
    have : (Value.agg cs).cells.toList = cs.toList := rfl
    rw [this, List.drop_eq_getElem_cons (by simpa using hjc)]
    rfl
  rw [ho, hk, e1, List.getElem?_eq_getElem hjx] at hj2
  exact ⟨cs[j], xs[j], n, Array.getElem?_eq_getElem hjc, hj2⟩
theorem arr2 {cs : Array Value} {a b : Value} (h : cs.size = 2) (h0 : cs[0]? = some a) (h1 : cs[1]? = some b) : cs = #[a, b] := by
  apply Array.ext_getElem?
  intro i
  match i with
  | 0 => simpa using h0
  | 1 => simpa using h1
  | i + 2 => rw [Array.getElem?_eq_none (by omega), Array.getElem?_eq_none (by simp)]
theorem arr5 {cs : Array Value} {a b c d e : Value} (h : cs.size = 5) (h0 : cs[0]? = some a) (h1 : cs[1]? = some b) (h2 : cs[2]? = some c) (h3 : cs[3]? = some d) (h4 : cs[4]? = some e) : cs = #[a, b, c, d, e] := by
  apply Array.ext_getElem?
  intro i
  match i with
  | 0 => simpa using h0
  | 1 => simpa using h1
  | 2 => simpa using h2
  | 3 => simpa using h3
  | 4 => simpa using h4
  | i + 5 => rw [Array.getElem?_eq_none (by omega), Array.getElem?_eq_none (by simp)]
end Go.Proofs.Ytfpegmnjplagfaa.Op
