/- Arguments opened: a slice of structs, index by index. -/
import Derived.Test.YtfopcmiphklcdaaLift
import Derived.Deep.Slices
import Derived.Deep.Fields
import Derived.Lib.SmallJoins
namespace Go.Proofs.Ytfopcmiphklcdaa
open Go.ChangeShapes Go.WideShapes Go.ChangeAt Go.RowKit Go.Joins Go.Deep

section
variable {H : Type} {enc : TypeId × Value → H} {P : Program} {W : World} {v : Value} {d : DataW H} {ps : List MemPlace}
/-- A slice whose elements are sz cells each. -/
theorem open_rows {t e : TypeId} {b0 sz : Nat} {r : Reach} (ht : P.underlying t = some (.slice e)) (hC : P.cellsOf e = sz) (hsz : 0 < sz) (hv : Value.okWide P W r b0 t v)
    (h : DataW.Trod enc P W 0 (fun _ => true) true t v d ps) :
    ∃ (A : Option Addr) (n c : Nat), v = .slice A n c ∧ n ≤ 9223372036854775807 ∧ (0 < n → ∃ b off, A = some ⟨b, off, none⟩ ∧ b < W.heap.size ∧
      ∀ k, k < n → ∃ (F : List Value) (m : Nat) (x : DataW H × List MemPlace), F.length = sz ∧ DataW.trod enc P W 0 (fun _ => true) true m e F = some x ∧ ∀ j, j < sz → W.cell? ⟨b, off + k * sz + j, none⟩ = F[j]?) := by
  obtain ⟨A, n, c, rfl⟩ := okWide_slice ht hv
  obtain ⟨fuel, hf⟩ := h
  refine ⟨A, n, c, rfl, ?_⟩
  rcases Go.Deep.open_slice ht hf with ⟨hcs, _⟩ | ⟨a, len, cap, m, n', D, Pl, hcs, _, hl, hm, hmm, _, hi⟩
  · simp [Value.cells] at hcs
    obtain ⟨rfl, rfl, rfl⟩ := hcs
    exact ⟨by omega, fun h0 => by omega⟩
  · simp [Value.cells] at hcs
    obtain ⟨rfl, rfl, rfl⟩ := hcs
    unfold maxLen at hm
    refine ⟨by omega, fun h0 => ?_⟩
    simp at hmm
    rw [hC] at hi
    obtain ⟨b, off, spot⟩ := a
    have hat : ∀ k, k < n → ∃ (F : List Value) (x : DataW H × List MemPlace), F.length = sz ∧ DataW.trod enc P W 0 (fun _ => true) true n' e F = some x ∧ ∀ j, j < sz → W.cell? (((⟨b, off, spot⟩ : Addr).add (k * sz)).add j) = F[j]? := fun k hk => by
      obtain ⟨cs', hc, ht'⟩ := hi k (by omega)
      obtain ⟨_, hcl, hc2⟩ := World.cells?_some hc
      exact ⟨cs', _, hcl, ht', hc2⟩
    have hspot : spot = none := by
      obtain ⟨F, x, hF, _, hc⟩ := hat 0 h0
      have h1 := hc 0 hsz
      have h2 : F[0]? = some (F[0]'(by omega)) := List.getElem?_eq_getElem (by omega)
      rw [h2] at h1
      simpa [Addr.add] using World.cell?_spot h1
    subst hspot
    refine ⟨b, off, rfl, ?_, fun k hk => ?_⟩
    · obtain ⟨F, x, hF, _, hc⟩ := hat 0 h0
      have h1 := hc 0 hsz
      have h2 : F[0]? = some (F[0]'(by omega)) := List.getElem?_eq_getElem (by omega)
      rw [h2] at h1
      have := World.block_lt_of_cell? W _ h1
      simpa [Addr.add] using this
    · obtain ⟨F, x, hF, ht', hc⟩ := hat k hk
      refine ⟨F, n', x, hF, ht', fun j hj => ?_⟩
      rw [← hc j hj]
      unfold Addr.add
      by_cases h1 : k * sz = 0 <;> by_cases h2 : j = 0 <;> simp [h1, h2, Nat.add_assoc]
/-- A struct of two cells, and of four: its fields, cell by cell. -/
theorem trod_cells2 {base : Nat} {sp : Nat → Bool} {held : Bool} {t : TypeId} {f0 f1 : Field} {fuel : Nat} {c0 c1 : Value} {x : DataW H × List MemPlace} (hs : P.underlying t = some (.struct #[f0, f1])) (hone : oneCellFields P #[f0, f1] = true)
    (h : DataW.trod enc P W base sp held fuel t [c0, c1] = some x) :
    ∃ (y0 y1 : DataW H × List MemPlace) (n : Nat), DataW.trod enc P W base sp held n f0.type [c0] = some y0 ∧ DataW.trod enc P W base sp held n f1.type [c1] = some y1 := by
  obtain ⟨y0, y1, n, _, _, h0, h1⟩ := trod_struct2 hs h
  obtain ⟨o0, k0⟩ := Go.Deep.hone_of hone 0 f0 rfl
  obtain ⟨o1, k1⟩ := Go.Deep.hone_of hone 1 f1 rfl
  exact ⟨y0, y1, n, by simpa [o0, k0] using h0, by simpa [o1, k1] using h1⟩
end
end Go.Proofs.Ytfopcmiphklcdaa
