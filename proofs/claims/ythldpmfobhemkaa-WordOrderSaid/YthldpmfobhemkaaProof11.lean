/- WordOrder holds, for every input. No condition. -/
import Derived.Test.YthldpmfobhemkaaLaw17
import Derived.Test.YthldpmfobhemkaaTerms
import Derived.Test.YthldpmfobhemkaaArgsOpen
namespace Go.Proofs.Ythldpmfobhemkaa
open Go.ChangeShapes Go.WideShapes Go.ChangeAt Go.RowKit Go.Joins


set_option maxRecDepth 100000 in
theorem order_lifted (os : Os) (started : os.Started) (H : Type) (enc : TypeId × Value → H) :
    ReturnsInHanded {} Try.checked os 3 .any (Rows.wordOrderSpec.pre6 enc Try.prog Try.f3 Rows.wordOrderRow.domain false) (Rows.wordOrderSpec.post enc Try.prog Try.f3 false true false false) := by
  refine law_lifted (C := Try.checked) started Try.own (by kernel_rfl) Try.func3 Try.laidOut (by kernel_rfl) (by kernel_rfl) Try.underlying4 rfl (fun ds h => ?_)
    (ChangeSpec.witness6 (enc := enc) (C := Try.checked) false ⟨#[], #[.agg #[.int .i64 0, .int .i64 0], .agg #[.slice none 0 0, .slice none 0 0], .agg #[.int .i64 0, .int .i64 0]], []⟩ 8 (by kernel_rfl) (by kernel_rfl) (by kernel_rfl) (by kernel_rfl)) ?_
  · rw [Try.params3] at h
    match ds, h with
    | [_, _, _], _ => rfl
  · intro W base args ds p hval0 hA0
    have hval : ∀ (j : Nat) t v, Try.f3.params[j]? = some t → args[j]? = some v → Value.okWide Try.prog W .any base t v := hval0
    have hA : DataW.TrodAll enc Try.prog W 0 (fun _ => true) true Try.f3.params.toList args.toList ds p := hA0
    rw [Try.params3] at hA hval
    obtain ⟨v0, v1, v2, d0, d1, d2, p0, p1, p2, rfl, rfl, rfl, h0, h1, h2⟩ := trodAll_three hA
    obtain ⟨b, s, rfl, gb, gs⟩ := open_two Try.underlying23 (by kernel_rfl) Try.cells23 Try.underlying3 Try.underlying3 (hval 0 23 v0 rfl rfl) h0
    obtain ⟨A, na, ca, B, nb, cb, rfl, oA, oB⟩ := open_terms (hval 1 26 v1 rfl rfl) h1
    obtain ⟨n, m, rfl, gn, gm⟩ := open_two Try.underlying28 (by kernel_rfl) Try.cells28 Try.underlying3 Try.underlying3 (hval 2 28 v2 rfl rfl) h2
    exact order_any b s n m A B na ca nb cb W oA oB

theorem order_holds : Rows.WordOrderSaid :=
  OpenClaim.holds_of_wide 3 Try.f3 rfl rfl rfl rfl rfl rfl rfl ⟨rfl, rfl, rfl, rfl, rfl⟩ rfl rfl rfl rfl rfl (by kernel_rfl) Try.func3 (by kernel_rfl)
    (of_decide_eq_true (by kernel_rfl)) (by unfold Func.isWrapper; rw [if_neg (of_decide_eq_false (by kernel_rfl))]; exact ⟨rfl, rfl⟩)
    (fun os started H enc _ => order_lifted os started H enc)
#print axioms order_holds

end Go.Proofs.Ythldpmfobhemkaa
