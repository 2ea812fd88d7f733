/- ShaftMirrors and ShaftMoves hold, for every input. No condition. -/
import Derived.Test.YtckhlcifpeocdaaLaw2
import Derived.Test.YtckhlcifpeocdaaLaw3
import Derived.Test.YtckhlcifpeocdaaArgs
namespace Go.Proofs.Ytckhlcifpeocdaa
open Go.ChangeShapes Go.WideShapes Go.ChangeAt Go.RowKit Go.Joins

theorem mirrors_any (G D R p v t1 l1 t2 l2 : Int) (w : World) : Calls Try.prog 6 #[.agg #[.int .i64 G, .int .i64 D, .int .i64 R], .agg #[.int .i64 p, .int .i64 v], .agg #[.int .i64 t1, .int .i64 l1, .int .i64 t2, .int .i64 l2]] w fun e w' => e = .returned (.bool true) ∧ Below w.heap.size w w' := by
  by_cases h : okC G D R
  · exact mirrors_yes G D R p v t1 l1 t2 l2 h w
  · exact mirrors_no G D R p v t1 l1 t2 l2 h w
theorem moves_any (G D R p v t l : Int) (w : World) : Calls Try.prog 8 #[.agg #[.int .i64 G, .int .i64 D, .int .i64 R], .agg #[.int .i64 p, .int .i64 v], .agg #[.int .i64 t, .int .i64 l]] w fun e w' => e = .returned (.bool true) ∧ Below w.heap.size w w' := by
  by_cases h : okC G D R
  · exact moves_yes G D R p v t l h w
  · exact moves_no G D R p v t l h w

set_option maxRecDepth 100000 in
theorem mirrors_lifted (os : Os) (started : os.Started) (H : Type) (enc : TypeId × Value → H) :
    ReturnsInHanded {} Try.checked os 6 .any (Rows.shaftMirrorsSpec.pre6 enc Try.prog Try.f6 Rows.shaftMirrorsRow.domain false) (Rows.shaftMirrorsSpec.post enc Try.prog Try.f6 false true false false) := by
  refine law_lifted (C := Try.checked) started Try.own (by kernel_rfl) Try.func6 Try.laidOut (by kernel_rfl) (by kernel_rfl) Try.underlying4 rfl (fun ds h => ?_)
    (ChangeSpec.witness6 (enc := enc) (C := Try.checked) false ⟨#[], #[.agg #[.int .i64 0, .int .i64 0, .int .i64 0], .agg #[.int .i64 0, .int .i64 0], .agg #[.int .i64 0, .int .i64 0, .int .i64 0, .int .i64 0]], []⟩ 8 (by kernel_rfl) (by kernel_rfl) (by kernel_rfl) (by kernel_rfl)) ?_
  · rw [Try.params6] at h
    match ds, h with
    | [_, _, _], _ => rfl
  · intro W base args ds p hval0 hA0
    have hval : ∀ (j : Nat) t v, Try.f6.params[j]? = some t → args[j]? = some v → Value.okWide Try.prog W .any base t v := hval0
    have hA : DataW.TrodAll enc Try.prog W 0 (fun _ => true) true Try.f6.params.toList args.toList ds p := hA0
    rw [Try.params6] at hA hval
    obtain ⟨v0, v1, v2, d0, d1, d2, p0, p1, p2, rfl, rfl, rfl, h0, h1, h2⟩ := trodAll_three hA
    obtain ⟨G, D, R, rfl, gG, gD, gR⟩ := open_cfg (hval 0 23 v0 rfl rfl) h0
    obtain ⟨p, v, rfl, gp, gv⟩ := open_two Try.underlying32 (by kernel_rfl) Try.cells32 Try.underlying3 Try.underlying3 (hval 1 32 v1 rfl rfl) h1
    obtain ⟨t1, l1, t2, l2, rfl⟩ := open_pair (hval 2 43 v2 rfl rfl) h2
    exact mirrors_any G D R p v t1 l1 t2 l2 W

theorem mirrors_holds : Rows.ShaftMirrorsSaid :=
  OpenClaim.holds_of_wide 6 Try.f6 rfl rfl rfl rfl rfl rfl rfl ⟨rfl, rfl, rfl, rfl, rfl⟩ rfl rfl rfl rfl rfl (by kernel_rfl) Try.func6 (by kernel_rfl)
    (of_decide_eq_true (by kernel_rfl)) (by unfold Func.isWrapper; rw [if_neg (of_decide_eq_false (by kernel_rfl))]; exact ⟨rfl, rfl⟩)
    (fun os started H enc _ => mirrors_lifted os started H enc)
#print axioms mirrors_holds

set_option maxRecDepth 100000 in
theorem moves_lifted (os : Os) (started : os.Started) (H : Type) (enc : TypeId × Value → H) :
    ReturnsInHanded {} Try.checked os 8 .any (Rows.shaftMovesSpec.pre6 enc Try.prog Try.f8 Rows.shaftMovesRow.domain false) (Rows.shaftMovesSpec.post enc Try.prog Try.f8 false true false false) := by
  refine law_lifted (C := Try.checked) started Try.own (by kernel_rfl) Try.func8 Try.laidOut (by kernel_rfl) (by kernel_rfl) Try.underlying4 rfl (fun ds h => ?_)
    (ChangeSpec.witness6 (enc := enc) (C := Try.checked) false ⟨#[], #[.agg #[.int .i64 0, .int .i64 0, .int .i64 0], .agg #[.int .i64 0, .int .i64 0], .agg #[.int .i64 0, .int .i64 0]], []⟩ 8 (by kernel_rfl) (by kernel_rfl) (by kernel_rfl) (by kernel_rfl)) ?_
  · rw [Try.params8] at h
    match ds, h with
    | [_, _, _], _ => rfl
  · intro W base args ds p hval0 hA0
    have hval : ∀ (j : Nat) t v, Try.f8.params[j]? = some t → args[j]? = some v → Value.okWide Try.prog W .any base t v := hval0
    have hA : DataW.TrodAll enc Try.prog W 0 (fun _ => true) true Try.f8.params.toList args.toList ds p := hA0
    rw [Try.params8] at hA hval
    obtain ⟨v0, v1, v2, d0, d1, d2, p0, p1, p2, rfl, rfl, rfl, h0, h1, h2⟩ := trodAll_three hA
    obtain ⟨G, D, R, rfl, gG, gD, gR⟩ := open_cfg (hval 0 23 v0 rfl rfl) h0
    obtain ⟨p, v, rfl, gp, gv⟩ := open_two Try.underlying32 (by kernel_rfl) Try.cells32 Try.underlying3 Try.underlying3 (hval 1 32 v1 rfl rfl) h1
    obtain ⟨t, l, rfl, gt, gl⟩ := open_two Try.underlying34 (by kernel_rfl) Try.cells34 Try.underlying3 Try.underlying3 (hval 2 34 v2 rfl rfl) h2
    exact moves_any G D R p v t l W

theorem moves_holds : Rows.ShaftMovesSaid :=
  OpenClaim.holds_of_wide 8 Try.f8 rfl rfl rfl rfl rfl rfl rfl ⟨rfl, rfl, rfl, rfl, rfl⟩ rfl rfl rfl rfl rfl (by kernel_rfl) Try.func8 (by kernel_rfl)
    (of_decide_eq_true (by kernel_rfl)) (by unfold Func.isWrapper; rw [if_neg (of_decide_eq_false (by kernel_rfl))]; exact ⟨rfl, rfl⟩)
    (fun os started H enc _ => moves_lifted os started H enc)
#print axioms moves_holds

end Go.Proofs.Ytckhlcifpeocdaa
