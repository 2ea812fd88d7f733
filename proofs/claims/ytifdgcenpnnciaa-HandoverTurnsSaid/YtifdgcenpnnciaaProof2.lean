/- HandoverTurns, HandoverReaches and HandoverMoves hold, for every input. No condition. -/
import Derived.Test.YtifdgcenpnnciaaMoves
import Derived.Test.YtifdgcenpnnciaaOpen
import Derived.OpenShut
namespace Go.Proofs.Ytifdgcenpnnciaa
open Go.ChangeShapes Go.WideShapes Go.ChangeAt Go.RowKit Go.Joins

theorem Try.cells23 : Try.prog.cellsOf 23 = 2 := by kernel_rfl
theorem Try.cells25 : Try.prog.cellsOf 25 = 2 := by kernel_rfl
theorem Try.cells3 : Try.prog.cellsOf 3 = 1 := by kernel_rfl
theorem Try.cells45 : Try.prog.cellsOf 45 = 2 := by kernel_rfl
theorem Try.cells47 : Try.prog.cellsOf 47 = 3 := by kernel_rfl

section
variable {H : Type} {enc : TypeId × Value → H} {W : World} {base b0 : Nat} {sp : Nat → Bool} {held : Bool} {v : Value} {d : DataW H} {p : List MemPlace}
theorem open_state (hv : Value.okWide Try.prog W .any b0 23 v) (h : DataW.Trod enc Try.prog W base sp held 23 v d p) : ∃ (x : Int) (s : Bool), v = .agg #[.int .i64 x, .bool s] := by
  obtain ⟨c0, c1, y0, y1, m, rfl, rfl, rfl, hy0, hy1⟩ := open_agg2 Try.underlying23 (by kernel_rfl) Try.cells23 hv h
  obtain ⟨a, e0, rfl, wa⟩ := DataW.trod_int Try.underlying3 hy0
  obtain ⟨s, e1, rfl⟩ := DataW.trod_bool Try.underlying4 hy1
  simp at e0 e1
  subst e0 e1
  exact ⟨a, s, rfl⟩
theorem okWide_array {P : Program} {r : Reach} {t e : TypeId} {n : Nat} (ht : P.underlying t = some (.array n e)) (h : Value.okWide P W r b0 t v) : ∃ cs, v = .agg cs ∧ cs.size = P.cellsOf t := by
  simp only [Value.okWide, ht] at h
  obtain ⟨cs, h1, h2, _⟩ := h
  exact ⟨cs, h1, h2⟩
theorem open_two (hv : Value.okWide Try.prog W .any b0 45 v) (h : DataW.Trod enc Try.prog W base sp held 45 v d p) : ∃ x y : Int, v = .agg #[.int .i64 x, .int .i64 y] := by
  obtain ⟨cs, rfl, hsz⟩ := okWide_array Try.underlying45 hv
  rw [Try.cells45] at hsz
  obtain ⟨c0, c1, rfl⟩ := array2 hsz
  obtain ⟨fuel, hf⟩ := h
  obtain ⟨xs, m, _, _, _, hx, hi⟩ := DataW.trod_array Try.underlying45 hf
  rw [Try.cells3] at hi
  have h0 := hi 0 (by decide)
  have h1 := hi 1 (by decide)
  rw [List.getElem?_eq_getElem (by omega)] at h0 h1
  obtain ⟨a, e0, _, _⟩ := DataW.trod_int Try.underlying3 h0
  obtain ⟨b, e1, _, _⟩ := DataW.trod_int Try.underlying3 h1
  simp [Value.cells] at e0 e1
  subst e0 e1
  exact ⟨a, b, rfl⟩
theorem open_three (hv : Value.okWide Try.prog W .any b0 47 v) (h : DataW.Trod enc Try.prog W base sp held 47 v d p) : ∃ x y z : Int, v = .agg #[.int .i64 x, .int .i64 y, .int .i64 z] := by
  obtain ⟨cs, rfl, hsz⟩ := okWide_array Try.underlying47 hv
  rw [Try.cells47] at hsz
  obtain ⟨c0, c1, c2, rfl⟩ := array3 hsz
  obtain ⟨fuel, hf⟩ := h
  obtain ⟨xs, m, _, _, _, hx, hi⟩ := DataW.trod_array Try.underlying47 hf
  rw [Try.cells3] at hi
  have h0 := hi 0 (by decide)
  have h1 := hi 1 (by decide)
  have h2 := hi 2 (by decide)
  rw [List.getElem?_eq_getElem (by omega)] at h0 h1 h2
  obtain ⟨a, e0, _, _⟩ := DataW.trod_int Try.underlying3 h0
  obtain ⟨b, e1, _, _⟩ := DataW.trod_int Try.underlying3 h1
  obtain ⟨c, e2, _, _⟩ := DataW.trod_int Try.underlying3 h2
  simp [Value.cells] at e0 e1 e2
  subst e0 e1 e2
  exact ⟨a, b, c, rfl⟩
/-- A list of inputs, opened. -/
theorem open_inputs (hv : Value.okWide Try.prog W .any b0 41 v) (h : DataW.Trod enc Try.prog W 0 (fun _ => true) true 41 v d p) :
    ∃ (A : Option Addr) (n c : Nat) (f g : Nat → Int), v = .slice A n c ∧ n ≤ 9223372036854775807 ∧ (0 < n → ∃ b off, A = some ⟨b, off, none⟩ ∧ b < W.heap.size ∧
      ∀ k, k < n → W.cell? ⟨b, off + k * 2, none⟩ = some (.int .i64 (f k)) ∧ W.cell? ⟨b, off + k * 2 + 1, none⟩ = some (.int .i64 (g k))) := by
  obtain ⟨A, n, c, rfl, hn, hc⟩ := open_rows Try.underlying41 Try.cells25 (by decide) hv h
  by_cases h0 : 0 < n
  · obtain ⟨b, off, rfl, hb, hk⟩ := hc h0
    have hk2 : ∀ k, k < n → ∃ q : Int × Int, W.cell? ⟨b, off + k * 2, none⟩ = some (.int .i64 q.1) ∧ W.cell? ⟨b, off + k * 2 + 1, none⟩ = some (.int .i64 q.2) := fun k hkn => by
      obtain ⟨F, m, x, hF, ht, hcell⟩ := hk k hkn
      match F, hF with
      | [c0, c1], _ =>
        obtain ⟨y0, y1, n', h0, h1⟩ := trod_cells2 Try.underlying25 (by kernel_rfl) ht
        obtain ⟨a, e0, _, _⟩ := DataW.trod_int Try.underlying3 h0
        obtain ⟨b, e1, _, _⟩ := DataW.trod_int Try.underlying3 h1
        simp at e0 e1
        subst e0 e1
        exact ⟨(a, b), by simpa using hcell 0 (by decide), by simpa using hcell 1 (by decide)⟩
    obtain ⟨q, hq⟩ := Go.Deep.choose_lt hk2
    exact ⟨_, n, c, fun k => (q k).1, fun k => (q k).2, rfl, hn, fun _ => ⟨b, off, rfl, hb, hq⟩⟩
  · exact ⟨A, n, c, fun _ => 0, fun _ => 0, rfl, hn, fun h1 => absurd h1 h0⟩
end

theorem moves_any (M ang : Int) (A : Option Addr) (n c : Nat) (f g : Nat → Int) (w : World) (hn : n ≤ 9223372036854775807)
    (hA : 0 < n → ∃ b off, A = some ⟨b, off, none⟩ ∧ b < w.heap.size ∧ ∀ k, k < n → w.cell? ⟨b, off + k * 2, none⟩ = some (.int .i64 (f k)) ∧ w.cell? ⟨b, off + k * 2 + 1, none⟩ = some (.int .i64 (g k))) :
    Calls Try.prog 4 #[.int .i64 M, .int .i64 ang, .slice A n c] w fun e w' => e = .returned (.bool true) ∧ Below w.heap.size w w' := by
  by_cases h : n ≤ 60
  · exact moves_short M ang _ A n c f g w h (Lib.hid rfl) hA
  · exact moves_long M ang A n c w (by omega) hn

set_option maxRecDepth 100000 in
theorem turns_lifted (os : Os) (started : os.Started) (H : Type) (enc : TypeId × Value → H) :
    ReturnsInHanded {} Try.checked os 6 .any (Rows.handoverTurnsSpec.pre6 enc Try.prog Try.f6 Rows.handoverTurnsRow.domain false) (Rows.handoverTurnsSpec.post enc Try.prog Try.f6 false true false false) := by
  refine law_lifted (C := Try.checked) started Try.own (by kernel_rfl) Try.func6 Try.laidOut (by kernel_rfl) (by kernel_rfl) Try.underlying4 rfl (fun ds h => ?_)
    (ChangeSpec.witness6 (enc := enc) (C := Try.checked) false ⟨#[], #[.int .i64 0, .agg #[.int .i64 0, .bool false], .agg #[.int .i64 0, .int .i64 0, .int .i64 0]], []⟩ 8 (by kernel_rfl) (by kernel_rfl) (by kernel_rfl) (by kernel_rfl)) ?_
  · rw [Try.params6] at h
    match ds, h with
    | [_, _, _], _ => rfl
  · intro W base args ds p hval0 hA0
    have hval : ∀ (j : Nat) t v, Try.f6.params[j]? = some t → args[j]? = some v → Value.okWide Try.prog W .any base t v := hval0
    have hA : DataW.TrodAll enc Try.prog W 0 (fun _ => true) true Try.f6.params.toList args.toList ds p := hA0
    rw [Try.params6] at hA hval
    obtain ⟨v0, v1, v2, d0, d1, d2, p0, p1, p2, rfl, rfl, rfl, h0, h1, h2⟩ := trodAll_three hA
    obtain ⟨m, rfl, rfl, rfl, w0⟩ := open_int Try.underlying3 (hval 0 3 v0 rfl rfl) h0
    obtain ⟨x, s, rfl⟩ := open_state (hval 1 23 v1 rfl rfl) h1
    obtain ⟨a, b, c, rfl⟩ := open_three (hval 2 47 v2 rfl rfl) h2
    exact turns_any m x a b c s W

theorem turns_holds : Rows.HandoverTurnsSaid :=
  OpenClaim.holds_of_wide 6 Try.f6 rfl rfl rfl rfl rfl rfl rfl ⟨rfl, rfl, rfl, rfl, rfl⟩ rfl rfl rfl rfl rfl (by kernel_rfl) Try.func6 (by kernel_rfl)
    (of_decide_eq_true (by kernel_rfl)) (by unfold Func.isWrapper; rw [if_neg (of_decide_eq_false (by kernel_rfl))]; exact ⟨rfl, rfl⟩)
    (fun os started H enc _ => turns_lifted os started H enc)
#print axioms turns_holds

set_option maxRecDepth 100000 in
theorem reach_lifted (os : Os) (started : os.Started) (H : Type) (enc : TypeId × Value → H) :
    ReturnsInHanded {} Try.checked os 5 .any (Rows.handoverReachesSpec.pre6 enc Try.prog Try.f5 Rows.handoverReachesRow.domain false) (Rows.handoverReachesSpec.post enc Try.prog Try.f5 false true false false) := by
  refine law_lifted (C := Try.checked) started Try.own (by kernel_rfl) Try.func5 Try.laidOut (by kernel_rfl) (by kernel_rfl) Try.underlying4 rfl (fun ds h => ?_)
    (ChangeSpec.witness6 (enc := enc) (C := Try.checked) false ⟨#[], #[.int .i64 0, .agg #[.int .i64 0, .bool false], .agg #[.int .i64 0, .int .i64 0]], []⟩ 8 (by kernel_rfl) (by kernel_rfl) (by kernel_rfl) (by kernel_rfl)) ?_
  · rw [Try.params5] at h
    match ds, h with
    | [_, _, _], _ => rfl
  · intro W base args ds p hval0 hA0
    have hval : ∀ (j : Nat) t v, Try.f5.params[j]? = some t → args[j]? = some v → Value.okWide Try.prog W .any base t v := hval0
    have hA : DataW.TrodAll enc Try.prog W 0 (fun _ => true) true Try.f5.params.toList args.toList ds p := hA0
    rw [Try.params5] at hA hval
    obtain ⟨v0, v1, v2, d0, d1, d2, p0, p1, p2, rfl, rfl, rfl, h0, h1, h2⟩ := trodAll_three hA
    obtain ⟨m, rfl, rfl, rfl, w0⟩ := open_int Try.underlying3 (hval 0 3 v0 rfl rfl) h0
    obtain ⟨x, s, rfl⟩ := open_state (hval 1 23 v1 rfl rfl) h1
    obtain ⟨a, b, rfl⟩ := open_two (hval 2 45 v2 rfl rfl) h2
    exact reach_any m x a b s W

theorem reach_holds : Rows.HandoverReachesSaid :=
  OpenClaim.holds_of_wide 5 Try.f5 rfl rfl rfl rfl rfl rfl rfl ⟨rfl, rfl, rfl, rfl, rfl⟩ rfl rfl rfl rfl rfl (by kernel_rfl) Try.func5 (by kernel_rfl)
    (of_decide_eq_true (by kernel_rfl)) (by unfold Func.isWrapper; rw [if_neg (of_decide_eq_false (by kernel_rfl))]; exact ⟨rfl, rfl⟩)
    (fun os started H enc _ => reach_lifted os started H enc)
#print axioms reach_holds

set_option maxRecDepth 100000 in
theorem moves_lifted (os : Os) (started : os.Started) (H : Type) (enc : TypeId × Value → H) :
    ReturnsInHanded {} Try.checked os 4 .any (Rows.handoverMovesSpec.pre6 enc Try.prog Try.f4 Rows.handoverMovesRow.domain false) (Rows.handoverMovesSpec.post enc Try.prog Try.f4 false true false false) := by
  refine law_lifted (C := Try.checked) started Try.own (by kernel_rfl) Try.func4 Try.laidOut (by kernel_rfl) (by kernel_rfl) Try.underlying4 rfl (fun ds h => ?_)
    (ChangeSpec.witness6 (enc := enc) (C := Try.checked) false ⟨#[], #[.int .i64 0, .int .i64 0, .slice none 0 0], []⟩ 8 (by kernel_rfl) (by kernel_rfl) (by kernel_rfl) (by kernel_rfl)) ?_
  · rw [Try.params4] at h
    match ds, h with
    | [_, _, _], _ => rfl
  · intro W base args ds p hval0 hA0
    have hval : ∀ (j : Nat) t v, Try.f4.params[j]? = some t → args[j]? = some v → Value.okWide Try.prog W .any base t v := hval0
    have hA : DataW.TrodAll enc Try.prog W 0 (fun _ => true) true Try.f4.params.toList args.toList ds p := hA0
    rw [Try.params4] at hA hval
    obtain ⟨v0, v1, v2, d0, d1, d2, p0, p1, p2, rfl, rfl, rfl, h0, h1, h2⟩ := trodAll_three hA
    obtain ⟨m, rfl, rfl, rfl, w0⟩ := open_int Try.underlying3 (hval 0 3 v0 rfl rfl) h0
    obtain ⟨a, rfl, rfl, rfl, w1⟩ := open_int Try.underlying3 (hval 1 3 v1 rfl rfl) h1
    obtain ⟨A, n, c, f, g, rfl, hn, hc⟩ := open_inputs (hval 2 41 v2 rfl rfl) h2
    exact moves_any m a A n c f g W hn hc

theorem moves_holds : Rows.HandoverMovesSaid :=
  OpenClaim.holds_of_wide 4 Try.f4 rfl rfl rfl rfl rfl rfl rfl ⟨rfl, rfl, rfl, rfl, rfl⟩ rfl rfl rfl rfl rfl (by kernel_rfl) Try.func4 (by kernel_rfl)
    (of_decide_eq_true (by kernel_rfl)) (by unfold Func.isWrapper; rw [if_neg (of_decide_eq_false (by kernel_rfl))]; exact ⟨rfl, rfl⟩)
    (fun os started H enc _ => moves_lifted os started H enc)
#print axioms moves_holds
end Go.Proofs.Ytifdgcenpnnciaa
