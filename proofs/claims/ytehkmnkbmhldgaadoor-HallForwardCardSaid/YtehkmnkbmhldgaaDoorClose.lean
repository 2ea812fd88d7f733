/- What every law of this seat shares behind its walk: the two tables out of the row's condition, a world for the witness, the arguments opened. -/
import Derived.Test.YtehkmnkbmhldgaaDoorOpen
import Derived.Test.YtehkmnkbmhldgaaDoorPlain
import Derived.Test.YtehkmnkbmhldgaaDoorTie
import Derived.Test.YtehkmnkbmhldgaaDoorCards
import Derived.OpenShut
import Derived.LaidMore
import Derived.SevenTiedAt
import Derived.Deep.DeepHandedRow
import Derived.Lib.LaidTab
namespace Go.Proofs.YtehkmnkbmhldgaaDoor
open Go.ChangeShapes Go.WideShapes Go.ChangeAt Go.RowKit Go.Joins

theorem gEdge : Tryd.prog.globalNamed "commutator/hall.edge" = some 0 := by kernel_rfl
theorem gCodes : Tryd.prog.globalNamed "commutator/hall.codes" = some 1 := by kernel_rfl
theorem tEdge : (Tryd.prog.globals[0]?).map (·.type) = some 47 := by kernel_rfl
theorem tCodes : (Tryd.prog.globals[1]?).map (·.type) = some 48 := by kernel_rfl
theorem Tryd.cells47 : Tryd.prog.cellsOf 47 = 7 := by kernel_rfl
theorem Tryd.cells48 : Tryd.prog.cellsOf 48 = 6 := by kernel_rfl
theorem Tryd.cells3 : Tryd.prog.cellsOf 3 = 1 := by kernel_rfl
theorem Tryd.cells23 : Tryd.prog.cellsOf 23 = 7 := by kernel_rfl

/-- What the row lists. -/
def theList : List (String × DataW Unit) := [("commutator/hall.edge", Rows.laid_commutator_hall_edge), ("commutator/hall.codes", Rows.laid_commutator_hall_codes)]
theorem tabs_of {W : World} (h : laidMetH Tryd.prog theList W) : Tabs W := by
  rw [MakeChecks.laidMetH_plain _ _ _ (by kernel_rfl)] at h
  obtain ⟨ps, ⟨g0, t0, cs0, f0, p0, q0, hg0, ht0, hv0, hd0, ⟨g1, t1, cs1, f1, p1, q1, hg1, ht1, hv1, hd1, _, _⟩, _⟩, _, _⟩ := h
  obtain rfl := Option.some.inj (gEdge.symm.trans hg0)
  obtain rfl := Option.some.inj (gCodes.symm.trans hg1)
  obtain rfl := Option.some.inj (tEdge.symm.trans ht0)
  obtain rfl := Option.some.inj (tCodes.symm.trans ht1)
  have e0 : cs0.toList = [.int .i64 0, .int .i64 10923, .int .i64 21846, .int .i64 32768, .int .i64 43691, .int .i64 54614, .int .i64 65536] := Lib.cells_of_tab (k := .i64) (zs := [0, 10923, 21846, 32768, 43691, 54614, 65536]) Tryd.underlying47 Tryd.underlying3 Tryd.cells3 Tryd.cells47 hd0
  have e1 : cs1.toList = [.int .i64 5, .int .i64 4, .int .i64 6, .int .i64 2, .int .i64 3, .int .i64 1] := Lib.cells_of_tab (k := .i64) (zs := [5, 4, 6, 2, 3, 1]) Tryd.underlying48 Tryd.underlying3 Tryd.cells3 Tryd.cells48 hd1
  obtain ⟨l0⟩ := cs0
  obtain ⟨l1⟩ := cs1
  simp only at e0 e1
  subst e0 e1
  refine ⟨fun i hi => ?_, fun i hi => ?_⟩
  · have h := World.var?_cell hg0 hv0 i
    match i, hi with
    | 0, _ => exact h | 1, _ => exact h | 2, _ => exact h | 3, _ => exact h | 4, _ => exact h | 5, _ => exact h | 6, _ => exact h
  · have h := World.var?_cell hg1 hv1 i
    match i, hi with
    | 0, _ => exact h | 1, _ => exact h | 2, _ => exact h | 3, _ => exact h | 4, _ => exact h | 5, _ => exact h

/-- A world for the witness: the settled one, the tables holding what their initialisers lay. -/
def layCells (cs : Array Value) : Obj → Obj
  | .cells _ t frozen => .cells cs t frozen
  | o => o
noncomputable def laidWorld (os : Os) : World :=
  { World.holding Tryd.prog os ⟨#[], #[], []⟩ with heap := ((World.holding Tryd.prog os ⟨#[], #[], []⟩).heap.modify 0 (layCells #[.int .i64 0, .int .i64 10923, .int .i64 21846, .int .i64 32768, .int .i64 43691, .int .i64 54614, .int .i64 65536])).modify 1 (layCells #[.int .i64 5, .int .i64 4, .int .i64 6, .int .i64 2, .int .i64 3, .int .i64 1]) }

theorem bd {x : Int} (h : (Lit.int .i64 x).wf = true) : -9223372036854775808 ≤ x ∧ x ≤ 9223372036854775807 := by
  have := in64_of_wf h
  unfold In64 at this
  omega

theorem u8 {x : Int} (h : (Lit.int .u8 x).wf = true) : 0 ≤ x ∧ x ≤ 255 := by
  simp only [Lit.wf, Bool.and_eq_true, decide_eq_true_eq] at h
  exact h
theorem okWide_struct {P : Program} {W : World} {b0 : Nat} {r : Reach} {t : TypeId} {v : Value} {fs : Array Field} (ht : P.underlying t = some (.struct fs)) (h : Value.okWide P W r b0 t v) : ∃ cs, v = .agg cs ∧ cs.size = P.cellsOf t := by
  simp only [Value.okWide, ht] at h
  obtain ⟨cs, h1, h2, _⟩ := h
  exact ⟨cs, h1, h2⟩
theorem array7 {cs : Array Value} (h : cs.size = 7) : ∃ a b c d e f g, cs = #[a, b, c, d, e, f, g] := by
  obtain ⟨l⟩ := cs
  match l, h with
  | [a, b, c, d, e, f, g], _ => exact ⟨a, b, c, d, e, f, g, rfl⟩
section
variable {H : Type} {enc : TypeId × Value → H} {P : Program} {W : World} {base b0 : Nat} {sp : Nat → Bool} {held : Bool} {v : Value} {d : DataW H} {p : List MemPlace}
theorem open_agg7 {t : TypeId} {f0 f1 f2 f3 f4 f5 f6 : Field} (hs : P.underlying t = some (.struct #[f0, f1, f2, f3, f4, f5, f6])) (hone : Go.Deep.oneCellFields P #[f0, f1, f2, f3, f4, f5, f6] = true) (hC : P.cellsOf t = 7)
    (hv : Value.okWide P W .any b0 t v) (h : DataW.Trod enc P W base sp held t v d p) :
    ∃ (v0 v1 v2 v3 v4 v5 v6 : Value) (y0 y1 y2 y3 y4 y5 y6 : DataW H × List MemPlace) (n : Nat), v = .agg #[v0, v1, v2, v3, v4, v5, v6] ∧ DataW.trod enc P W base sp held n f0.type [v0] = some y0 ∧ DataW.trod enc P W base sp held n f1.type [v1] = some y1 ∧ DataW.trod enc P W base sp held n f2.type [v2] = some y2 ∧ DataW.trod enc P W base sp held n f3.type [v3] = some y3 ∧ DataW.trod enc P W base sp held n f4.type [v4] = some y4 ∧ DataW.trod enc P W base sp held n f5.type [v5] = some y5 ∧ DataW.trod enc P W base sp held n f6.type [v6] = some y6 := by
  obtain ⟨cs, rfl, hsz⟩ := okWide_struct hs hv
  obtain ⟨c0, c1, c2, c3, c4, c5, c6, rfl⟩ := array7 (hsz.trans hC)
  obtain ⟨fuel, hf⟩ := h
  obtain ⟨xs, n, _, _, _, hlen, hi⟩ := DataW.trod_struct hs hf
  match xs, hlen with
  | [y0, y1, y2, y3, y4, y5, y6], _ =>
    obtain ⟨o0, k0⟩ := Go.Deep.hone_of hone 0 f0 rfl
    have g0 := hi 0 f0 rfl
    obtain ⟨o1, k1⟩ := Go.Deep.hone_of hone 1 f1 rfl
    have g1 := hi 1 f1 rfl
    obtain ⟨o2, k2⟩ := Go.Deep.hone_of hone 2 f2 rfl
    have g2 := hi 2 f2 rfl
    obtain ⟨o3, k3⟩ := Go.Deep.hone_of hone 3 f3 rfl
    have g3 := hi 3 f3 rfl
    obtain ⟨o4, k4⟩ := Go.Deep.hone_of hone 4 f4 rfl
    have g4 := hi 4 f4 rfl
    obtain ⟨o5, k5⟩ := Go.Deep.hone_of hone 5 f5 rfl
    have g5 := hi 5 f5 rfl
    obtain ⟨o6, k6⟩ := Go.Deep.hone_of hone 6 f6 rfl
    have g6 := hi 6 f6 rfl
    refine ⟨c0, c1, c2, c3, c4, c5, c6, y0, y1, y2, y3, y4, y5, y6, n, rfl, ?_, ?_, ?_, ?_, ?_, ?_, ?_⟩
    · simpa [o0, k0, Value.cells] using g0
    · simpa [o1, k1, Value.cells] using g1
    · simpa [o2, k2, Value.cells] using g2
    · simpa [o3, k3, Value.cells] using g3
    · simpa [o4, k4, Value.cells] using g4
    · simpa [o5, k5, Value.cells] using g5
    · simpa [o6, k6, Value.cells] using g6

theorem open_state (hv : Value.okWide Tryd.prog W .any b0 23 v) (h : DataW.Trod enc Tryd.prog W base sp held 23 v d p) :
    ∃ s : HS, v = .agg s.cs := by
  obtain ⟨v0, v1, v2, v3, v4, v5, v6, y0, y1, y2, y3, y4, y5, y6, n, rfl, h0, h1, h2, h3, h4, h5, h6⟩ := open_agg7 Tryd.underlying23 (by kernel_rfl) Tryd.cells23 hv h
  obtain ⟨a0, e0, _, _⟩ := DataW.trod_int Tryd.underlying3 h0
  obtain ⟨a1, e1, _, _⟩ := DataW.trod_int Tryd.underlying3 h1
  obtain ⟨a2, e2, _, _⟩ := DataW.trod_int Tryd.underlying3 h2
  obtain ⟨a3, e3, _, _⟩ := DataW.trod_int Tryd.underlying3 h3
  obtain ⟨a4, e4, _, _⟩ := DataW.trod_int Tryd.underlying3 h4
  obtain ⟨a5, e5, _, _⟩ := DataW.trod_int Tryd.underlying3 h5
  obtain ⟨b, e6, _⟩ := DataW.trod_bool Tryd.underlying4 h6
  simp at e0 e1 e2 e3 e4 e5 e6
  subst e0 e1 e2 e3 e4 e5 e6
  exact ⟨⟨a0, a1, a2, a3, a4, a5, b⟩, rfl⟩
end
end Go.Proofs.YtehkmnkbmhldgaaDoor
