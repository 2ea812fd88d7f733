/- The operands of Dot: two slices, opened. -/
import Derived.Test.YthldpmfobhemkaaArgsOpen
namespace Go.Proofs.Ythldpmfobhemkaa
open Go.ChangeShapes Go.WideShapes Go.ChangeAt Go.RowKit Go.Joins

theorem Try.cells24 : Try.prog.cellsOf 24 = 1 := by kernel_rfl
theorem Try.cells26 : Try.prog.cellsOf 26 = 2 := by kernel_rfl
section
variable {H : Type} {enc : TypeId × Value → H} {P : Program} {W : World} {base b0 fuel : Nat} {held : Bool} {v : Value} {d : DataW H} {p : List MemPlace}
theorem open_row {c : Value} {x : DataW H × List MemPlace} (h : DataW.trod enc Try.prog W base (fun _ => true) held fuel 24 [c] = some x) :
    ∃ (A : Option Addr) (n cap : Nat), c = .slice A n cap ∧ (0 < n → ∃ (ba oa : Nat) (f : Nat → Int), A = some ⟨ba, oa, none⟩ ∧ n ≤ cap ∧ ba < W.heap.size ∧ ∀ i, i < n → W.cell? ⟨ba, oa + i, none⟩ = some (.int .i64 (f i))) := by
  rcases open_ints Try.underlying24 Try.underlying3 Try.cells3 h with ⟨e, _⟩ | ⟨a, len, cap, zs, e, _, hl, _, hz, _, hc, _⟩
  · simp at e
    subst e
    exact ⟨none, 0, 0, rfl, fun h => absurd h (by omega)⟩
  · simp at e hz
    subst e
    refine ⟨some a, len, cap, rfl, fun hn => ?_⟩
    obtain ⟨ba, oa, rfl, hcell⟩ := ints_at hc (by omega)
    refine ⟨ba, oa, fun i => zs.getD i 0, rfl, hl, ?_, fun i hi => hcell i (by omega)⟩
    exact World.block_lt_of_cell? W ⟨ba, oa + 0, none⟩ (hcell 0 (by omega))
theorem open_terms (hv : Value.okWide Try.prog W .any b0 26 v) (h : DataW.Trod enc Try.prog W base (fun _ => true) held 26 v d p) :
    ∃ (A : Option Addr) (na ca : Nat) (B : Option Addr) (nb cb : Nat), v = .agg #[.slice A na ca, .slice B nb cb] ∧
      (0 < na → ∃ (ba oa : Nat) (f : Nat → Int), A = some ⟨ba, oa, none⟩ ∧ na ≤ ca ∧ ba < W.heap.size ∧ ∀ i, i < na → W.cell? ⟨ba, oa + i, none⟩ = some (.int .i64 (f i))) ∧
      (0 < nb → ∃ (bb ob : Nat) (g : Nat → Int), B = some ⟨bb, ob, none⟩ ∧ nb ≤ cb ∧ bb < W.heap.size ∧ ∀ i, i < nb → W.cell? ⟨bb, ob + i, none⟩ = some (.int .i64 (g i))) := by
  obtain ⟨cs, rfl, hsz⟩ := okWide_struct Try.underlying26 hv
  rw [Try.cells26] at hsz
  obtain ⟨c0, c1, rfl⟩ := array2 hsz
  obtain ⟨fuel, hf⟩ := h
  obtain ⟨y0, y1, n, _, _, h0, h1⟩ := trod_struct2 Try.underlying26 hf
  simp [Value.cells, Try.cells24] at h0 h1
  obtain ⟨A, na, ca, rfl, hA⟩ := open_row h0
  obtain ⟨B, nb, cb, rfl, hB⟩ := open_row h1
  exact ⟨A, na, ca, B, nb, cb, rfl, hA, hB⟩
end
end Go.Proofs.Ythldpmfobhemkaa
