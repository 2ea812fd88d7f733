/- The argument of WordMonotone, and a pair of formats, opened. -/
import Derived.Test.YthldpmfobhemkaaArgsOpen
namespace Go.Proofs.Ythldpmfobhemkaa
open Go.ChangeShapes Go.WideShapes Go.ChangeAt Go.RowKit Go.Joins

theorem Try.cells52 : Try.prog.cellsOf 52 = 3 := by kernel_rfl
section
variable {H : Type} {enc : TypeId × Value → H} {P : Program} {W : World} {base b0 : Nat} {sp : Nat → Bool} {held : Bool} {v : Value} {d : DataW H} {p : List MemPlace}
theorem okWide_array {r : Reach} {t e : TypeId} {n : Nat} (ht : P.underlying t = some (.array n e)) (h : Value.okWide P W r b0 t v) : ∃ cs, v = .agg cs ∧ cs.size = P.cellsOf t := by
  simp only [Value.okWide, ht] at h
  obtain ⟨cs, h1, h2, _⟩ := h
  exact ⟨cs, h1, h2⟩
theorem open_arr3 (hv : Value.okWide Try.prog W .any b0 52 v) (h : DataW.Trod enc Try.prog W base sp held 52 v d p) : ∃ a b c : Int, v = .agg #[.int .i64 a, .int .i64 b, .int .i64 c] := by
  obtain ⟨cs, rfl, hsz⟩ := okWide_array Try.underlying52 hv
  rw [Try.cells52] at hsz
  obtain ⟨c0, c1, c2, rfl⟩ := array3 hsz
  obtain ⟨fuel, hf⟩ := h
  obtain ⟨xs, m, _, _, _, hx, hi⟩ := DataW.trod_array Try.underlying52 hf
  rw [Try.cells3] at hi
  have h0 := hi 0 (by decide)
  have h1 := hi 1 (by decide)
  have h2 := hi 2 (by decide)
  rw [List.getElem?_eq_getElem (by omega)] at h0 h1 h2
  obtain ⟨a, e0, _, _⟩ := DataW.trod_int Try.underlying3 h0
  obtain ⟨b, e1, _, _⟩ := DataW.trod_int Try.underlying3 h1
  obtain ⟨c, e2, _, _⟩ := DataW.trod_int Try.underlying3 h2
  simp [Value.cells] at e0 e1 e2
  subst e0 e1 e2
  exact ⟨a, b, c, rfl⟩
end
end Go.Proofs.Ythldpmfobhemkaa
