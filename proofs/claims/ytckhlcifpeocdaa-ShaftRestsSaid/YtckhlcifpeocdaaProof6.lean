/- ShaftRests holds, for every input. No condition. -/
import Derived.Test.YtckhlcifpeocdaaRests
import Derived.Test.YtckhlcifpeocdaaArgs
namespace Go.Proofs.Ytckhlcifpeocdaa
open Go.ChangeShapes Go.WideShapes Go.ChangeAt Go.RowKit Go.Joins


set_option maxRecDepth 100000 in
theorem rests_lifted (os : Os) (started : os.Started) (H : Type) (enc : TypeId × Value → H) :
    ReturnsInHanded {} Try.checked os 5 .any (Rows.shaftRestsSpec.pre6 enc Try.prog Try.f5 Rows.shaftRestsRow.domain false) (Rows.shaftRestsSpec.post enc Try.prog Try.f5 false true false false) := by
  refine law_lifted (C := Try.checked) started Try.own (by kernel_rfl) Try.func5 Try.laidOut (by kernel_rfl) (by kernel_rfl) Try.underlying4 rfl (fun ds h => ?_)
    (ChangeSpec.witness6 (enc := enc) (C := Try.checked) false ⟨#[], #[.agg #[.int .i64 0, .int .i64 0, .int .i64 0], .agg #[.int .i64 0, .int .i64 0], .slice none 0 0], []⟩ 8 (by kernel_rfl) (by kernel_rfl) (by kernel_rfl) (by kernel_rfl)) ?_
  · rw [Try.params5] at h
    match ds, h with
    | [_, _, _], _ => rfl
  · intro W base args ds p hval0 hA0
    have hval : ∀ (j : Nat) t v, Try.f5.params[j]? = some t → args[j]? = some v → Value.okWide Try.prog W .any base t v := hval0
    have hA : DataW.TrodAll enc Try.prog W 0 (fun _ => true) true Try.f5.params.toList args.toList ds p := hA0
    rw [Try.params5] at hA hval
    obtain ⟨v0, v1, v2, d0, d1, d2, p0, p1, p2, rfl, rfl, rfl, h0, h1, h2⟩ := trodAll_three hA
    obtain ⟨G, D, R, rfl, gG, gD, gR⟩ := open_cfg (hval 0 23 v0 rfl rfl) h0
    obtain ⟨p, v, rfl, gp, gv⟩ := open_two Try.underlying32 (by kernel_rfl) Try.cells32 Try.underlying3 Try.underlying3 (hval 1 32 v1 rfl rfl) h1
    obtain ⟨B, n, c, f, g, rfl, hn, hc⟩ := open_script (hval 2 39 v2 rfl rfl) h2
    exact rests_any G D R p v B n c f g hn W hc

theorem rests_holds : Rows.ShaftRestsSaid :=
  OpenClaim.holds_of_wide 5 Try.f5 rfl rfl rfl rfl rfl rfl rfl ⟨rfl, rfl, rfl, rfl, rfl⟩ rfl rfl rfl rfl rfl (by kernel_rfl) Try.func5 (by kernel_rfl)
    (of_decide_eq_true (by kernel_rfl)) (by unfold Func.isWrapper; rw [if_neg (of_decide_eq_false (by kernel_rfl))]; exact ⟨rfl, rfl⟩)
    (fun os started H enc _ => rests_lifted os started H enc)
#print axioms rests_holds

end Go.Proofs.Ytckhlcifpeocdaa
