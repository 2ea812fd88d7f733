/- Bounds of feeding back, opened. -/
import Derived.Test.YtfopcmiphklcdaaArgsOpen
namespace Go.Proofs.Ytfopcmiphklcdaa
open Go.ChangeShapes Go.WideShapes Go.ChangeAt Go.RowKit Go.Joins Go.Deep

theorem Try.cells52 : Try.prog.cellsOf 52 = 3 := by kernel_rfl
theorem bd {x : Int} (h : (Lit.int .i64 x).wf = true) : -9223372036854775808 ≤ x ∧ x ≤ 9223372036854775807 := by
  have := in64_of_wf h
  unfold In64 at this
  omega
theorem u16 {x : Int} (h : (Lit.int .u16 x).wf = true) : 0 ≤ x ∧ x ≤ 65535 := by
  simp only [Lit.wf, Bool.and_eq_true, decide_eq_true_eq] at h
  exact h
section
variable {H : Type} {enc : TypeId × Value → H} {W : World} {base b0 : Nat} {sp : Nat → Bool} {held : Bool} {v : Value} {d : DataW H} {p : List MemPlace}
theorem arr3 {cs : Array Value} (h : cs.size = 3) : ∃ a b c, cs = #[a, b, c] := by
  obtain ⟨l⟩ := cs
  match l, h with
  | [a, b, c], _ => exact ⟨a, b, c, rfl⟩
theorem open_bounds (hv : Value.okWide Try.prog W .any b0 52 v) (h : DataW.Trod enc Try.prog W base sp held 52 v d p) : ∃ a b c : Int, v = .agg #[.int .i64 a, .int .i64 b, .int .i64 c] ∧ -9223372036854775808 ≤ a := by
  obtain ⟨cs, rfl, hsz⟩ := okWide_struct Try.underlying52 hv
  obtain ⟨c0, c1, c2, rfl⟩ := arr3 (hsz.trans Try.cells52)
  obtain ⟨fuel, hf⟩ := h
  obtain ⟨xs, n, _, _, _, hl, hi⟩ := DataW.trod_struct Try.underlying52 hf
  simp at hl
  match xs, hl with
  | [y0, y1, y2], _ =>
    have g0 := hi 0 _ rfl
    have g1 := hi 1 _ rfl
    have g2 := hi 2 _ rfl
    obtain ⟨a0, e0, _, w0⟩ := DataW.trod_int Try.underlying3 g0
    obtain ⟨a1, e1, _, _⟩ := DataW.trod_int Try.underlying3 g1
    obtain ⟨a2, e2, _, _⟩ := DataW.trod_int Try.underlying3 g2
    simp [Value.cells, Try.cells3] at e0 e1 e2
    subst e0 e1 e2
    exact ⟨a0, a1, a2, rfl, (bd w0).1⟩
end
end Go.Proofs.Ytfopcmiphklcdaa
