/- ShaftStops holds, for every input. No condition. -/
import Derived.Test.YtckhlcifpeocdaaStops
import Derived.Test.YtckhlcifpeocdaaArgs
namespace Go.Proofs.Ytckhlcifpeocdaa
open Go.ChangeShapes Go.WideShapes Go.ChangeAt Go.RowKit Go.Joins


set_option maxRecDepth 100000 in
theorem stops_lifted (os : Os) (started : os.Started) (H : Type) (enc : TypeId × Value → H) :
    ReturnsInHanded {} Try.checked os 10 .any (Rows.shaftStopsSpec.pre6 enc Try.prog Try.f10 Rows.shaftStopsRow.domain false) (Rows.shaftStopsSpec.post enc Try.prog Try.f10 false true false false) := by
  refine law_lifted (C := Try.checked) started Try.own (by kernel_rfl) Try.func10 Try.laidOut (by kernel_rfl) (by kernel_rfl) Try.underlying4 rfl (fun ds h => ?_)
    (ChangeSpec.witness6 (enc := enc) (C := Try.checked) false ⟨#[], #[.agg #[.int .i64 0, .int .i64 0, .int .i64 0], .agg #[.int .i64 0, .int .i64 0], .int .i64 0], []⟩ 8 (by kernel_rfl) (by kernel_rfl) (by kernel_rfl) (by kernel_rfl)) ?_
  · rw [Try.params10] at h
    match ds, h with
    | [_, _, _], _ => rfl
  · intro W base args ds p hval0 hA0
    have hval : ∀ (j : Nat) t v, Try.f10.params[j]? = some t → args[j]? = some v → Value.okWide Try.prog W .any base t v := hval0
    have hA : DataW.TrodAll enc Try.prog W 0 (fun _ => true) true Try.f10.params.toList args.toList ds p := hA0
    rw [Try.params10] at hA hval
    obtain ⟨v0, v1, v2, d0, d1, d2, p0, p1, p2, rfl, rfl, rfl, h0, h1, h2⟩ := trodAll_three hA
    obtain ⟨G, D, R, rfl, gG, gD, gR⟩ := open_cfg (hval 0 23 v0 rfl rfl) h0
    obtain ⟨p, v, rfl, gp, gv⟩ := open_two Try.underlying32 (by kernel_rfl) Try.cells32 Try.underlying3 Try.underlying3 (hval 1 32 v1 rfl rfl) h1
    obtain ⟨x2, rfl, rfl, rfl, wf2⟩ := open_int Try.underlying3 (hval 2 3 v2 rfl rfl) h2
    exact stops_any G D R p v x2 W

theorem stops_holds : Rows.ShaftStopsSaid :=
  OpenClaim.holds_of_wide 10 Try.f10 rfl rfl rfl rfl rfl rfl rfl ⟨rfl, rfl, rfl, rfl, rfl⟩ rfl rfl rfl rfl rfl (by kernel_rfl) Try.func10 (by kernel_rfl)
    (of_decide_eq_true (by kernel_rfl)) (by unfold Func.isWrapper; rw [if_neg (of_decide_eq_false (by kernel_rfl))]; exact ⟨rfl, rfl⟩)
    (fun os started H enc _ => stops_lifted os started H enc)
#print axioms stops_holds

end Go.Proofs.Ytckhlcifpeocdaa
