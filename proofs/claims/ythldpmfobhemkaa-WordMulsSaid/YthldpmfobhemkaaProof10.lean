/- WordMuls holds, for every input. No condition. -/
import Derived.Test.YthldpmfobhemkaaLaw13
import Derived.Test.YthldpmfobhemkaaArgsOpen
namespace Go.Proofs.Ythldpmfobhemkaa
open Go.ChangeShapes Go.WideShapes Go.ChangeAt Go.RowKit Go.Joins


set_option maxRecDepth 100000 in
theorem muls_lifted (os : Os) (started : os.Started) (H : Type) (enc : TypeId × Value → H) :
    ReturnsInHanded {} Try.checked os 5 .any (Rows.wordMulsSpec.pre6 enc Try.prog Try.f5 Rows.wordMulsRow.domain false) (Rows.wordMulsSpec.post enc Try.prog Try.f5 false true false false) := by
  refine law_lifted (C := Try.checked) started Try.own (by kernel_rfl) Try.func5 Try.laidOut (by kernel_rfl) (by kernel_rfl) Try.underlying4 rfl (fun ds h => ?_)
    (ChangeSpec.witness6 (enc := enc) (C := Try.checked) false ⟨#[], #[.agg #[.int .i64 0, .int .i64 0], .agg #[.int .i64 0, .int .i64 0], .agg #[.int .i64 0, .int .i64 0]], []⟩ 8 (by kernel_rfl) (by kernel_rfl) (by kernel_rfl) (by kernel_rfl)) ?_
  · rw [Try.params5] at h
    match ds, h with
    | [_, _, _], _ => rfl
  · intro W base args ds p hval0 hA0
    have hval : ∀ (j : Nat) t v, Try.f5.params[j]? = some t → args[j]? = some v → Value.okWide Try.prog W .any base t v := hval0
    have hA : DataW.TrodAll enc Try.prog W 0 (fun _ => true) true Try.f5.params.toList args.toList ds p := hA0
    rw [Try.params5] at hA hval
    obtain ⟨v0, v1, v2, d0, d1, d2, p0, p1, p2, rfl, rfl, rfl, h0, h1, h2⟩ := trodAll_three hA
    obtain ⟨b, s, rfl, gb, gs⟩ := open_two Try.underlying23 (by kernel_rfl) Try.cells23 Try.underlying3 Try.underlying3 (hval 0 23 v0 rfl rfl) h0
    obtain ⟨x, y, rfl, gx, gy⟩ := open_two Try.underlying43 (by kernel_rfl) Try.cells43 Try.underlying3 Try.underlying3 (hval 1 43 v1 rfl rfl) h1
    obtain ⟨n, m, rfl, gn, gm⟩ := open_two Try.underlying28 (by kernel_rfl) Try.cells28 Try.underlying3 Try.underlying3 (hval 2 28 v2 rfl rfl) h2
    exact muls_any b s x y n m W

theorem muls_holds : Rows.WordMulsSaid :=
  OpenClaim.holds_of_wide 5 Try.f5 rfl rfl rfl rfl rfl rfl rfl ⟨rfl, rfl, rfl, rfl, rfl⟩ rfl rfl rfl rfl rfl (by kernel_rfl) Try.func5 (by kernel_rfl)
    (of_decide_eq_true (by kernel_rfl)) (by unfold Func.isWrapper; rw [if_neg (of_decide_eq_false (by kernel_rfl))]; exact ⟨rfl, rfl⟩)
    (fun os started H enc _ => muls_lifted os started H enc)
#print axioms muls_holds

end Go.Proofs.Ythldpmfobhemkaa
