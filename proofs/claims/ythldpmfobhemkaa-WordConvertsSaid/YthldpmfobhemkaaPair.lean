/- A pair of formats, opened. -/
import Derived.Test.YthldpmfobhemkaaArgsOpen
namespace Go.Proofs.Ythldpmfobhemkaa
open Go.ChangeShapes Go.WideShapes Go.ChangeAt Go.RowKit Go.Joins

section
variable {H : Type} {enc : TypeId × Value → H} {P : Program} {W : World} {base b0 : Nat} {sp : Nat → Bool} {held : Bool} {v : Value} {d : DataW H} {p : List MemPlace}
theorem open_pair (hv : Value.okWide Try.prog W .any b0 63 v) (h : DataW.Trod enc Try.prog W base sp held 63 v d p) : ∃ a b c e : Int, v = .agg #[.int .i64 a, .int .i64 b, .int .i64 c, .int .i64 e] := by
  obtain ⟨cs, rfl, hsz⟩ := okWide_struct Try.underlying63 hv
  obtain ⟨c0, c1, c2, c3, rfl⟩ := array4 (hsz.trans Try.cells63)
  obtain ⟨fuel, hf⟩ := h
  obtain ⟨y0, y1, n, _, _, h0, h1⟩ := trod_struct2 Try.underlying63 hf
  obtain ⟨z0, z1, n0, _, _, g0, g1⟩ := trod_struct2 Try.underlying23 h0
  obtain ⟨z2, z3, n1, _, _, g2, g3⟩ := trod_struct2 Try.underlying23 h1
  obtain ⟨a0, e0, _, _⟩ := DataW.trod_int Try.underlying3 g0
  obtain ⟨a1, e1, _, _⟩ := DataW.trod_int Try.underlying3 g1
  obtain ⟨a2, e2, _, _⟩ := DataW.trod_int Try.underlying3 g2
  obtain ⟨a3, e3, _, _⟩ := DataW.trod_int Try.underlying3 g3
  simp [Value.cells, Try.cells3, Try.cells23] at e0 e1 e2 e3
  subst e0 e1 e2 e3
  exact ⟨a0, a1, a2, a3, rfl⟩
end
end Go.Proofs.Ythldpmfobhemkaa
