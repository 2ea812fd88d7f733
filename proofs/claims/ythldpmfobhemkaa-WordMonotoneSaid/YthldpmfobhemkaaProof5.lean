/- WordMonotone holds, for every input. No condition. -/
import Derived.Test.YthldpmfobhemkaaLaw5
import Derived.Test.YthldpmfobhemkaaArr
import Derived.Test.YthldpmfobhemkaaArgsOpen
namespace Go.Proofs.Ythldpmfobhemkaa
open Go.ChangeShapes Go.WideShapes Go.ChangeAt Go.RowKit Go.Joins


set_option maxRecDepth 100000 in
theorem monotone_lifted (os : Os) (started : os.Started) (H : Type) (enc : TypeId × Value → H) :
    ReturnsInHanded {} Try.checked os 9 .any (Rows.wordMonotoneSpec.pre6 enc Try.prog Try.f9 Rows.wordMonotoneRow.domain false) (Rows.wordMonotoneSpec.post enc Try.prog Try.f9 false true false false) := by
  refine law_lifted (C := Try.checked) started Try.own (by kernel_rfl) Try.func9 Try.laidOut (by kernel_rfl) (by kernel_rfl) Try.underlying4 rfl (fun ds h => ?_)
    (ChangeSpec.witness6 (enc := enc) (C := Try.checked) false ⟨#[], #[.agg #[.int .i64 0, .int .i64 0], .agg #[.int .i64 0, .int .i64 0, .int .i64 0], .agg #[.int .i64 0, .int .i64 0]], []⟩ 8 (by kernel_rfl) (by kernel_rfl) (by kernel_rfl) (by kernel_rfl)) ?_
  · rw [Try.params9] at h
    match ds, h with
    | [_, _, _], _ => rfl
  · intro W base args ds p hval0 hA0
    have hval : ∀ (j : Nat) t v, Try.f9.params[j]? = some t → args[j]? = some v → Value.okWide Try.prog W .any base t v := hval0
    have hA : DataW.TrodAll enc Try.prog W 0 (fun _ => true) true Try.f9.params.toList args.toList ds p := hA0
    rw [Try.params9] at hA hval
    obtain ⟨v0, v1, v2, d0, d1, d2, p0, p1, p2, rfl, rfl, rfl, h0, h1, h2⟩ := trodAll_three hA
    obtain ⟨b, s, rfl, gb, gs⟩ := open_two Try.underlying23 (by kernel_rfl) Try.cells23 Try.underlying3 Try.underlying3 (hval 0 23 v0 rfl rfl) h0
    obtain ⟨x, y, z, rfl⟩ := open_arr3 (hval 1 52 v1 rfl rfl) h1
    obtain ⟨n, m, rfl, gn, gm⟩ := open_two Try.underlying28 (by kernel_rfl) Try.cells28 Try.underlying3 Try.underlying3 (hval 2 28 v2 rfl rfl) h2
    exact mono_any b s x y z n m W

theorem monotone_holds : Rows.WordMonotoneSaid :=
  OpenClaim.holds_of_wide 9 Try.f9 rfl rfl rfl rfl rfl rfl rfl ⟨rfl, rfl, rfl, rfl, rfl⟩ rfl rfl rfl rfl rfl (by kernel_rfl) Try.func9 (by kernel_rfl)
    (of_decide_eq_true (by kernel_rfl)) (by unfold Func.isWrapper; rw [if_neg (of_decide_eq_false (by kernel_rfl))]; exact ⟨rfl, rfl⟩)
    (fun os started H enc _ => monotone_lifted os started H enc)
#print axioms monotone_holds

end Go.Proofs.Ythldpmfobhemkaa
