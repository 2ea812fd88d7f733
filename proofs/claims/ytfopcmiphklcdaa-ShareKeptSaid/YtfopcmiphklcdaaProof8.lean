/- ShareKept holds, for every input. No condition. -/
import Derived.Test.YtfopcmiphklcdaaLaw8
import Derived.Test.YtfopcmiphklcdaaArgsOpen
namespace Go.Proofs.Ytfopcmiphklcdaa
open Go.ChangeShapes Go.WideShapes Go.ChangeAt Go.RowKit Go.Joins


set_option maxRecDepth 100000 in
theorem kept_lifted (os : Os) (started : os.Started) (H : Type) (enc : TypeId × Value → H) :
    ReturnsInHanded {} Try.checked os 10 .any (Rows.shareKeptSpec.pre6 enc Try.prog Try.f10 Rows.shareKeptRow.domain false) (Rows.shareKeptSpec.post enc Try.prog Try.f10 false true false false) := by
  refine law_lifted (C := Try.checked) started Try.own (by kernel_rfl) Try.func10 Try.laidOut (by kernel_rfl) (by kernel_rfl) Try.underlying4 rfl (fun ds h => ?_)
    (ChangeSpec.witness6 (enc := enc) (C := Try.checked) false ⟨#[], #[.int .i64 0, .slice none 0 0], []⟩ 8 (by kernel_rfl) (by kernel_rfl) (by kernel_rfl) (by kernel_rfl)) ?_
  · rw [Try.params10] at h
    match ds, h with
    | [_, _], _ => rfl
  · intro W base args ds p hval0 hA0
    have hval : ∀ (j : Nat) t v, Try.f10.params[j]? = some t → args[j]? = some v → Value.okWide Try.prog W .any base t v := hval0
    have hA : DataW.TrodAll enc Try.prog W 0 (fun _ => true) true Try.f10.params.toList args.toList ds p := hA0
    rw [Try.params10] at hA hval
    obtain ⟨v0, v1, d0, d1, p0, p1, rfl, rfl, rfl, h0, h1⟩ := trodAll_two hA
    obtain ⟨x0, rfl, rfl, rfl, wf0⟩ := open_int Try.underlying3 (hval 0 3 v0 rfl rfl) h0
    obtain ⟨A, k, cl, bl, ol, L, rfl, hR⟩ := open_drives (hval 1 22 v1 rfl rfl) h1
    exact kept_any x0 A k cl bl ol L W hR

theorem kept_holds : Rows.ShareKeptSaid :=
  OpenClaim.holds_of_wide 10 Try.f10 rfl rfl rfl rfl rfl rfl rfl ⟨rfl, rfl, rfl, rfl, rfl⟩ rfl rfl rfl rfl rfl (by kernel_rfl) Try.func10 (by kernel_rfl)
    (of_decide_eq_true (by kernel_rfl)) (by unfold Func.isWrapper; rw [if_neg (of_decide_eq_false (by kernel_rfl))]; exact ⟨rfl, rfl⟩)
    (fun os started H enc _ => kept_lifted os started H enc)
#print axioms kept_holds

end Go.Proofs.Ytfopcmiphklcdaa
