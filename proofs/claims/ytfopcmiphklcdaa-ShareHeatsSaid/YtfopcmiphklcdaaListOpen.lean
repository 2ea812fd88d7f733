/- A list of ints, opened. -/
import Derived.Test.YtfopcmiphklcdaaArgsOpen
import Derived.Test.YtfopcmiphklcdaaAwake
namespace Go.Proofs.Ytfopcmiphklcdaa
open Go.ChangeShapes Go.WideShapes Go.ChangeAt Go.RowKit Go.Joins Go.Deep

section
variable {H : Type} {enc : TypeId × Value → H} {W : World} {base b0 : Nat} {held : Bool} {v : Value} {d : DataW H} {p : List MemPlace}
theorem open_list (hv : Value.okWide Try.prog W .any b0 24 v) (h : DataW.Trod enc Try.prog W base (fun _ => true) held 24 v d p) :
    ∃ (A : Option Addr) (n cl bl ol : Nat) (f : Nat → Int), v = .slice A n cl ∧ IR W A n bl ol f := by
  obtain ⟨A, n, c, rfl⟩ := okWide_slice Try.underlying24 hv
  obtain ⟨fuel, hf⟩ := h
  rcases open_ints Try.underlying24 Try.underlying3 Try.cells3 hf with ⟨e, _⟩ | ⟨a, len, cap, zs, e, _, hl, _, hz, _, hc, _⟩
  · simp [Value.cells] at e
    obtain ⟨rfl, rfl, rfl⟩ := e
    exact ⟨none, 0, 0, 0, 0, fun _ => 0, rfl, fun h => absurd h (by omega)⟩
  · simp [Value.cells] at e
    simp at hz
    obtain ⟨rfl, rfl, rfl⟩ := e
    by_cases hn : 0 < n
    · obtain ⟨ba, oa, rfl, hcell⟩ := ints_at hc (by omega)
      exact ⟨_, n, c, ba, oa, fun i => zs.getD i 0, rfl, fun _ => ⟨rfl, World.block_lt_of_cell? W ⟨ba, oa + 0, none⟩ (hcell 0 (by omega)), fun i hi => hcell i (by omega)⟩⟩
    · exact ⟨_, n, c, 0, 0, fun _ => 0, rfl, fun h => absurd h hn⟩
end
end Go.Proofs.Ytfopcmiphklcdaa
