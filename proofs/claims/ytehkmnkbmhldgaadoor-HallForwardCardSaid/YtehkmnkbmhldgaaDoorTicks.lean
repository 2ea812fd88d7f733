/- The argument of HallForward, opened. -/
import Derived.Test.YtehkmnkbmhldgaaDoorClose
namespace Go.Proofs.YtehkmnkbmhldgaaDoor
open Go.ChangeShapes Go.WideShapes Go.ChangeAt Go.RowKit Go.Joins

theorem Tryd.cells39 : Tryd.prog.cellsOf 39 = 2 := by kernel_rfl
section
variable {H : Type} {enc : TypeId × Value → H} {W : World} {b0 : Nat} {v : Value} {d : DataW H} {p : List MemPlace}
/-- A list of ticks. -/
theorem open_ticks (hv : Value.okWide Tryd.prog W .any b0 37 v) (h : DataW.Trod enc Tryd.prog W 0 (fun _ => true) true 37 v d p) :
    ∃ (A : Option Addr) (n c : Nat) (tk : Nat → Int) (bd : Nat → Bool), v = .slice A n c ∧ n ≤ 9223372036854775807 ∧ (0 < n → ∃ b off, A = some ⟨b, off, none⟩ ∧ b < W.heap.size ∧
      ∀ k, k < n → (0 ≤ tk k ∧ tk k ≤ 255) ∧ W.cell? ⟨b, off + k * 2, none⟩ = some (.int .u8 (tk k)) ∧ W.cell? ⟨b, off + k * 2 + 1, none⟩ = some (.bool (bd k))) := by
  obtain ⟨A, n, c, rfl, hn, hc⟩ := open_rows Tryd.underlying37 Tryd.cells39 (by decide) hv h
  by_cases h0 : 0 < n
  · obtain ⟨b, off, rfl, hb, hk⟩ := hc h0
    have hk2 : ∀ k, k < n → ∃ q : Int × Bool, (0 ≤ q.1 ∧ q.1 ≤ 255) ∧ W.cell? ⟨b, off + k * 2, none⟩ = some (.int .u8 q.1) ∧ W.cell? ⟨b, off + k * 2 + 1, none⟩ = some (.bool q.2) := fun k hkn => by
      obtain ⟨F, m, x, hF, ht, hcell⟩ := hk k hkn
      match F, hF with
      | [c0, c1], _ =>
        obtain ⟨y0, y1, n', h0, h1⟩ := trod_cells2 Tryd.underlying39 (by kernel_rfl) ht
        obtain ⟨a, e0, _, wa⟩ := DataW.trod_int Tryd.underlying5 h0
        obtain ⟨b, e1, _⟩ := DataW.trod_bool Tryd.underlying4 h1
        simp at e0 e1
        subst e0 e1
        exact ⟨(a, b), u8 wa, by simpa using hcell 0 (by decide), by simpa using hcell 1 (by decide)⟩
    obtain ⟨q, hq⟩ := Go.Deep.choose_lt hk2
    exact ⟨_, n, c, fun k => (q k).1, fun k => (q k).2, rfl, hn, fun _ => ⟨b, off, rfl, hb, hq⟩⟩
  · exact ⟨A, n, c, fun _ => 0, fun _ => false, rfl, hn, fun h1 => absurd h1 h0⟩
end
end Go.Proofs.YtehkmnkbmhldgaaDoor
