/- Arguments of layer 56's laws, opened. -/
import Derived.Test.YtfopcmiphklcdaaOpen
import Derived.Test.YtfopcmiphklcdaaCheck
import Derived.OpenShut
namespace Go.Proofs.Ytfopcmiphklcdaa
open Go.ChangeShapes Go.WideShapes Go.ChangeAt Go.RowKit Go.Joins Go.Deep

theorem Try.cells3 : Try.prog.cellsOf 3 = 1 := by kernel_rfl
theorem Try.cells40 : Try.prog.cellsOf 40 = 4 := by kernel_rfl
section
variable {H : Type} {enc : TypeId × Value → H} {W : World} {b0 : Nat} {v : Value} {d : DataW H} {p : List MemPlace}
theorem list4 {F : List Value} (h : F.length = 4) : ∃ a b c d, F = [a, b, c, d] := by
  match F, h with
  | [a, b, c, d], _ => exact ⟨a, b, c, d, rfl⟩
theorem trod_cells4 {P : Program} {base : Nat} {sp : Nat → Bool} {held : Bool} {t : TypeId} {f0 f1 f2 f3 : Field} {fuel : Nat} {c0 c1 c2 c3 : Value} {x : DataW H × List MemPlace} (hs : P.underlying t = some (.struct #[f0, f1, f2, f3])) (hone : oneCellFields P #[f0, f1, f2, f3] = true)
    (h : DataW.trod enc P W base sp held fuel t [c0, c1, c2, c3] = some x) :
    ∃ (y0 y1 y2 y3 : DataW H × List MemPlace) (n : Nat), DataW.trod enc P W base sp held n f0.type [c0] = some y0 ∧ DataW.trod enc P W base sp held n f1.type [c1] = some y1 ∧ DataW.trod enc P W base sp held n f2.type [c2] = some y2 ∧ DataW.trod enc P W base sp held n f3.type [c3] = some y3 := by
  obtain ⟨xs, n, _, _, _, hl, hf⟩ := DataW.trod_struct hs h
  obtain ⟨o0, k0⟩ := Go.Deep.hone_of hone 0 f0 rfl
  obtain ⟨o1, k1⟩ := Go.Deep.hone_of hone 1 f1 rfl
  obtain ⟨o2, k2⟩ := Go.Deep.hone_of hone 2 f2 rfl
  obtain ⟨o3, k3⟩ := Go.Deep.hone_of hone 3 f3 rfl
  simp at hl
  match xs, hl with
  | [y0, y1, y2, y3], _ =>
    have g0 := hf 0 f0 rfl
    have g1 := hf 1 f1 rfl
    have g2 := hf 2 f2 rfl
    have g3 := hf 3 f3 rfl
    exact ⟨y0, y1, y2, y3, n, by simpa [o0, k0] using g0, by simpa [o1, k1] using g1, by simpa [o2, k2] using g2, by simpa [o3, k3] using g3⟩
theorem open_drives (hv : Value.okWide Try.prog W .any b0 22 v) (h : DataW.Trod enc Try.prog W 0 (fun _ => true) true 22 v d p) :
    ∃ (A : Option Addr) (k cl bl ol : Nat) (L : Nat → Dr), v = .slice A k cl ∧ Row W A k bl ol L := by
  obtain ⟨A, n, c, rfl, _, hn⟩ := open_rows Try.underlying22 Try.cells40 (by decide) hv h
  by_cases h0 : 0 < n
  · obtain ⟨b, off, rfl, hb, hk⟩ := hn h0
    have each : ∀ i, ∃ x : Dr, i < n → ∀ j, j < 4 → W.cell? ⟨b, off + i * 4 + j, none⟩ = (vD x)[j]? := by
      intro i
      by_cases hi : i < n
      · obtain ⟨F, m, x, hF, ht, hc⟩ := hk i hi
        obtain ⟨c0, c1, c2, c3, rfl⟩ := list4 hF
        obtain ⟨y0, y1, y2, y3, n', g0, g1, g2, g3⟩ := trod_cells4 Try.underlying40 (by kernel_rfl) ht
        obtain ⟨a0, e0, _, _⟩ := DataW.trod_int Try.underlying3 g0
        obtain ⟨a1, e1, _, _⟩ := DataW.trod_int Try.underlying3 g1
        obtain ⟨a2, e2, _, _⟩ := DataW.trod_int Try.underlying3 g2
        obtain ⟨a3, e3, _, _⟩ := DataW.trod_int Try.underlying3 g3
        simp at e0 e1 e2 e3
        subst e0 e1 e2 e3
        refine ⟨⟨a0, a1, a2, a3⟩, fun _ j hj => ?_⟩
        rw [hc j hj]
        simp [vD]
      · exact ⟨⟨0, 0, 0, 0⟩, fun x => absurd x hi⟩
    obtain ⟨L, hL⟩ := Classical.skolem.1 each
    exact ⟨_, n, c, b, off, L, rfl, fun _ => ⟨rfl, hb, fun i hi j hj => hL i hi j hj⟩⟩
  · exact ⟨A, n, c, 0, 0, fun _ => ⟨0, 0, 0, 0⟩, rfl, fun x => absurd x h0⟩
end
end Go.Proofs.Ytfopcmiphklcdaa
