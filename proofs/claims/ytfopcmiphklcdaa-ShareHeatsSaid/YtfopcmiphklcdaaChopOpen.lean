/- A chopper and its state, opened. -/
import Derived.Test.YtfopcmiphklcdaaArgsOpen
namespace Go.Proofs.Ytfopcmiphklcdaa
open Go.ChangeShapes Go.WideShapes Go.ChangeAt Go.RowKit Go.Joins Go.Deep

theorem Try.cells42 : Try.prog.cellsOf 42 = 5 := by kernel_rfl
theorem Try.cells44 : Try.prog.cellsOf 44 = 2 := by kernel_rfl
theorem Try.cells4 : Try.prog.cellsOf 4 = 1 := by kernel_rfl
section
variable {H : Type} {enc : TypeId × Value → H} {W : World} {base b0 : Nat} {sp : Nat → Bool} {held : Bool} {v : Value} {d : DataW H} {p : List MemPlace}
theorem arr5 {cs : Array Value} (h : cs.size = 5) : ∃ a b c d e, cs = #[a, b, c, d, e] := by
  obtain ⟨l⟩ := cs
  match l, h with
  | [a, b, c, d, e], _ => exact ⟨a, b, c, d, e, rfl⟩
theorem arr2 {cs : Array Value} (h : cs.size = 2) : ∃ a b, cs = #[a, b] := by
  obtain ⟨l⟩ := cs
  match l, h with
  | [a, b], _ => exact ⟨a, b, rfl⟩
theorem open_chopper (hv : Value.okWide Try.prog W .any b0 42 v) (h : DataW.Trod enc Try.prog W base sp held 42 v d p) : ∃ a b c e f : Int, v = .agg #[.int .i64 a, .int .i64 b, .int .i64 c, .int .i64 e, .int .i64 f] := by
  obtain ⟨cs, rfl, hsz⟩ := okWide_struct Try.underlying42 hv
  obtain ⟨c0, c1, c2, c3, c4, rfl⟩ := arr5 (hsz.trans Try.cells42)
  obtain ⟨fuel, hf⟩ := h
  obtain ⟨xs, n, _, _, _, hl, hi⟩ := DataW.trod_struct Try.underlying42 hf
  simp at hl
  match xs, hl with
  | [y0, y1, y2, y3, y4], _ =>
    have g0 := hi 0 _ rfl
    have g1 := hi 1 _ rfl
    have g2 := hi 2 _ rfl
    have g3 := hi 3 _ rfl
    have g4 := hi 4 _ rfl
    obtain ⟨a0, e0, _, _⟩ := DataW.trod_int Try.underlying3 g0
    obtain ⟨a1, e1, _, _⟩ := DataW.trod_int Try.underlying3 g1
    obtain ⟨a2, e2, _, _⟩ := DataW.trod_int Try.underlying3 g2
    obtain ⟨a3, e3, _, _⟩ := DataW.trod_int Try.underlying3 g3
    obtain ⟨a4, e4, _, _⟩ := DataW.trod_int Try.underlying3 g4
    simp [Value.cells, Try.cells3] at e0 e1 e2 e3 e4
    subst e0 e1 e2 e3 e4
    exact ⟨a0, a1, a2, a3, a4, rfl⟩
theorem open_state (hv : Value.okWide Try.prog W .any b0 44 v) (h : DataW.Trod enc Try.prog W base sp held 44 v d p) : ∃ (a : Bool) (b : Int), v = .agg #[.bool a, .int .i64 b] := by
  obtain ⟨cs, rfl, hsz⟩ := okWide_struct Try.underlying44 hv
  obtain ⟨c0, c1, rfl⟩ := arr2 (hsz.trans Try.cells44)
  obtain ⟨fuel, hf⟩ := h
  obtain ⟨xs, n, _, _, _, hl, hi⟩ := DataW.trod_struct Try.underlying44 hf
  simp at hl
  match xs, hl with
  | [y0, y1], _ =>
    have g0 := hi 0 _ rfl
    have g1 := hi 1 _ rfl
    obtain ⟨a0, e0, _⟩ := DataW.trod_bool Try.underlying4 g0
    obtain ⟨a1, e1, _, _⟩ := DataW.trod_int Try.underlying3 g1
    simp [Value.cells, Try.cells3, Try.cells4] at e0 e1
    subst e0 e1
    exact ⟨a0, a1, rfl⟩
end
end Go.Proofs.Ytfopcmiphklcdaa
