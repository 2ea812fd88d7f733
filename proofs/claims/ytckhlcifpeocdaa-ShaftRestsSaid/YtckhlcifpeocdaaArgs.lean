/- Arguments of layer 29's laws, opened. -/
import Derived.Test.YtckhlcifpeocdaaOpen
import Derived.Test.YtckhlcifpeocdaaBase
import Derived.OpenShut
namespace Go.Proofs.Ytckhlcifpeocdaa
open Go.ChangeShapes Go.WideShapes Go.ChangeAt Go.RowKit Go.Joins

theorem Try.cells3 : Try.prog.cellsOf 3 = 1 := by kernel_rfl
theorem Try.cells23 : Try.prog.cellsOf 23 = 3 := by kernel_rfl
theorem Try.cells32 : Try.prog.cellsOf 32 = 2 := by kernel_rfl
theorem Try.cells34 : Try.prog.cellsOf 34 = 2 := by kernel_rfl
theorem Try.cells51 : Try.prog.cellsOf 51 = 2 := by kernel_rfl
theorem Try.cells43 : Try.prog.cellsOf 43 = 4 := by kernel_rfl

theorem bd {x : Int} (h : (Lit.int .i64 x).wf = true) : -9223372036854775808 ≤ x ∧ x ≤ 9223372036854775807 := by
  have := in64_of_wf h
  unfold In64 at this
  omega
section
variable {H : Type} {enc : TypeId × Value → H} {P : Program} {W : World} {base b0 : Nat} {sp : Nat → Bool} {held : Bool} {v : Value} {d : DataW H} {p : List MemPlace}
/-- A struct of two ints by value. -/
theorem open_two {t : TypeId} {f0 f1 : Field} (hs : P.underlying t = some (.struct #[f0, f1])) (hone : Go.Deep.oneCellFields P #[f0, f1] = true) (hC : P.cellsOf t = 2) (u0 : P.underlying f0.type = some (.int .i64)) (u1 : P.underlying f1.type = some (.int .i64))
    (hv : Value.okWide P W .any b0 t v) (h : DataW.Trod enc P W base sp held t v d p) :
    ∃ x y : Int, v = .agg #[.int .i64 x, .int .i64 y] ∧ (-9223372036854775808 ≤ x ∧ x ≤ 9223372036854775807) ∧ (-9223372036854775808 ≤ y ∧ y ≤ 9223372036854775807) := by
  obtain ⟨c0, c1, y0, y1, m, rfl, rfl, rfl, hy0, hy1⟩ := open_agg2 hs hone hC hv h
  obtain ⟨a, e0, rfl, wa⟩ := DataW.trod_int u0 hy0
  obtain ⟨b, e1, rfl, wb⟩ := DataW.trod_int u1 hy1
  simp at e0 e1
  subst e0 e1
  exact ⟨a, b, rfl, bd wa, bd wb⟩
theorem open_cfg (hv : Value.okWide Try.prog W .any b0 23 v) (h : DataW.Trod enc Try.prog W base sp held 23 v d p) :
    ∃ x y z : Int, v = .agg #[.int .i64 x, .int .i64 y, .int .i64 z] ∧ (-9223372036854775808 ≤ x ∧ x ≤ 9223372036854775807) ∧ (-9223372036854775808 ≤ y ∧ y ≤ 9223372036854775807) ∧ (-9223372036854775808 ≤ z ∧ z ≤ 9223372036854775807) := by
  obtain ⟨c0, c1, c2, y0, y1, y2, m, rfl, rfl, rfl, hy0, hy1, hy2⟩ := open_agg3 Try.underlying23 (by kernel_rfl) Try.cells23 hv h
  obtain ⟨a, e0, rfl, wa⟩ := DataW.trod_int Try.underlying3 hy0
  obtain ⟨b, e1, rfl, wb⟩ := DataW.trod_int Try.underlying3 hy1
  obtain ⟨c, e2, rfl, wc⟩ := DataW.trod_int Try.underlying3 hy2
  simp at e0 e1 e2
  subst e0 e1 e2
  exact ⟨a, b, c, rfl, bd wa, bd wb, bd wc⟩
theorem okWide_array {r : Reach} {t e : TypeId} {n : Nat} (ht : P.underlying t = some (.array n e)) (h : Value.okWide P W r b0 t v) : ∃ cs, v = .agg cs ∧ cs.size = P.cellsOf t := by
  simp only [Value.okWide, ht] at h
  obtain ⟨cs, h1, h2, _⟩ := h
  exact ⟨cs, h1, h2⟩
/-- Two inputs by value. -/
theorem open_pair (hv : Value.okWide Try.prog W .any b0 43 v) (h : DataW.Trod enc Try.prog W base sp held 43 v d p) : ∃ a b c d : Int, v = .agg #[.int .i64 a, .int .i64 b, .int .i64 c, .int .i64 d] := by
  obtain ⟨cs, rfl, hsz⟩ := okWide_array Try.underlying43 hv
  rw [Try.cells43] at hsz
  obtain ⟨c0, c1, c2, c3, rfl⟩ := array4 hsz
  obtain ⟨fuel, hf⟩ := h
  obtain ⟨xs, m, _, _, _, hx, hi⟩ := DataW.trod_array Try.underlying43 hf
  rw [Try.cells34] at hi
  have h0 := hi 0 (by decide)
  have h1 := hi 1 (by decide)
  rw [List.getElem?_eq_getElem (by omega)] at h0 h1
  obtain ⟨y0, y1, n, k0, k1⟩ := trod_cells2 Try.underlying34 (by kernel_rfl) (c0 := c0) (c1 := c1) h0
  obtain ⟨y2, y3, n', k2, k3⟩ := trod_cells2 Try.underlying34 (by kernel_rfl) (c0 := c2) (c1 := c3) h1
  obtain ⟨a, e0, _, _⟩ := DataW.trod_int Try.underlying3 k0
  obtain ⟨b, e1, _, _⟩ := DataW.trod_int Try.underlying3 k1
  obtain ⟨c, e2, _, _⟩ := DataW.trod_int Try.underlying3 k2
  obtain ⟨d, e3, _, _⟩ := DataW.trod_int Try.underlying3 k3
  simp at e0 e1 e2 e3
  subst e0 e1 e2 e3
  exact ⟨a, b, c, d, rfl⟩
/-- A list of inputs. -/
theorem open_script (hv : Value.okWide Try.prog W .any b0 39 v) (h : DataW.Trod enc Try.prog W 0 (fun _ => true) true 39 v d p) :
    ∃ (A : Option Addr) (n c : Nat) (f g : Nat → Int), v = .slice A n c ∧ n ≤ 9223372036854775807 ∧ (0 < n → ∃ b off, A = some ⟨b, off, none⟩ ∧ b < W.heap.size ∧
      ∀ k, k < n → W.cell? ⟨b, off + k * 2, none⟩ = some (.int .i64 (f k)) ∧ W.cell? ⟨b, off + k * 2 + 1, none⟩ = some (.int .i64 (g k))) := by
  obtain ⟨A, n, c, rfl, hn, hc⟩ := open_rows Try.underlying39 Try.cells34 (by decide) hv h
  by_cases h0 : 0 < n
  · obtain ⟨b, off, rfl, hb, hk⟩ := hc h0
    have hk2 : ∀ k, k < n → ∃ q : Int × Int, W.cell? ⟨b, off + k * 2, none⟩ = some (.int .i64 q.1) ∧ W.cell? ⟨b, off + k * 2 + 1, none⟩ = some (.int .i64 q.2) := fun k hkn => by
      obtain ⟨F, m, x, hF, ht, hcell⟩ := hk k hkn
      match F, hF with
      | [c0, c1], _ =>
        obtain ⟨y0, y1, n', h0, h1⟩ := trod_cells2 Try.underlying34 (by kernel_rfl) ht
        obtain ⟨a, e0, _, _⟩ := DataW.trod_int Try.underlying3 h0
        obtain ⟨b, e1, _, _⟩ := DataW.trod_int Try.underlying3 h1
        simp at e0 e1
        subst e0 e1
        exact ⟨(a, b), by simpa using hcell 0 (by decide), by simpa using hcell 1 (by decide)⟩
    obtain ⟨q, hq⟩ := Go.Deep.choose_lt hk2
    exact ⟨_, n, c, fun k => (q k).1, fun k => (q k).2, rfl, hn, fun _ => ⟨b, off, rfl, hb, hq⟩⟩
  · exact ⟨A, n, c, fun _ => 0, fun _ => 0, rfl, hn, fun h1 => absurd h1 h0⟩
end
end Go.Proofs.Ytckhlcifpeocdaa
