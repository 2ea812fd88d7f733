/- ShareHeats holds, for every input. No condition. -/
import Derived.Test.YtfopcmiphklcdaaLaw5
import Derived.Test.YtfopcmiphklcdaaChopOpen
import Derived.Test.YtfopcmiphklcdaaListOpen
import Derived.Test.YtfopcmiphklcdaaArgsOpen
namespace Go.Proofs.Ytfopcmiphklcdaa
open Go.ChangeShapes Go.WideShapes Go.ChangeAt Go.RowKit Go.Joins


set_option maxRecDepth 100000 in
theorem heats_lifted (os : Os) (started : os.Started) (H : Type) (enc : TypeId × Value → H) :
    ReturnsInHanded {} Try.checked os 7 .any (Rows.shareHeatsSpec.pre6 enc Try.prog Try.f7 Rows.shareHeatsRow.domain false) (Rows.shareHeatsSpec.post enc Try.prog Try.f7 false true false false) := by
  refine law_lifted (C := Try.checked) started Try.own (by kernel_rfl) Try.func7 Try.laidOut (by kernel_rfl) (by kernel_rfl) Try.underlying4 rfl (fun ds h => ?_)
    (ChangeSpec.witness6 (enc := enc) (C := Try.checked) false ⟨#[], #[.agg #[.int .i64 0, .int .i64 0, .int .i64 0, .int .i64 0, .int .i64 0], .agg #[.bool false, .int .i64 0], .slice none 0 0], []⟩ 8 (by kernel_rfl) (by kernel_rfl) (by kernel_rfl) (by kernel_rfl)) ?_
  · rw [Try.params7] at h
    match ds, h with
    | [_, _, _], _ => rfl
  · intro W base args ds p hval0 hA0
    have hval : ∀ (j : Nat) t v, Try.f7.params[j]? = some t → args[j]? = some v → Value.okWide Try.prog W .any base t v := hval0
    have hA : DataW.TrodAll enc Try.prog W 0 (fun _ => true) true Try.f7.params.toList args.toList ds p := hA0
    rw [Try.params7] at hA hval
    obtain ⟨v0, v1, v2, d0, d1, d2, p0, p1, p2, rfl, rfl, rfl, h0, h1, h2⟩ := trodAll_three hA
    obtain ⟨on, off, mo, ri, fa, rfl⟩ := open_chopper (hval 0 42 v0 rfl rfl) h0
    obtain ⟨ac, he, rfl⟩ := open_state (hval 1 44 v1 rfl rfl) h1
    obtain ⟨A, k, cl, bl, ol, f, rfl, hL⟩ := open_list (hval 2 24 v2 rfl rfl) h2
    exact heats_any on off mo ri fa he ac A k cl bl ol f W hL

theorem heats_holds : Rows.ShareHeatsSaid :=
  OpenClaim.holds_of_wide 7 Try.f7 rfl rfl rfl rfl rfl rfl rfl ⟨rfl, rfl, rfl, rfl, rfl⟩ rfl rfl rfl rfl rfl (by kernel_rfl) Try.func7 (by kernel_rfl)
    (of_decide_eq_true (by kernel_rfl)) (by unfold Func.isWrapper; rw [if_neg (of_decide_eq_false (by kernel_rfl))]; exact ⟨rfl, rfl⟩)
    (fun os started H enc _ => heats_lifted os started H enc)
#print axioms heats_holds

end Go.Proofs.Ytfopcmiphklcdaa
