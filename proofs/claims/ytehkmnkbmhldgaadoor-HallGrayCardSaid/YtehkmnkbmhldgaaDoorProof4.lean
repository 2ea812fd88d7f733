/- HallGray holds, for every input, the two tables starting as the program lays them. No other condition. -/
import Derived.Test.YtehkmnkbmhldgaaDoorLaw3
import Derived.Test.YtehkmnkbmhldgaaDoorClose
namespace Go.Proofs.YtehkmnkbmhldgaaDoor
open Go.ChangeShapes Go.WideShapes Go.ChangeAt Go.RowKit Go.Joins

theorem gray_laidMet (os : Os) : laidMet Tryd.prog Rows.hallGrayRow.laid ((laidWorld os).forCall (fun _ _ => 0) ⟨#[], #[.int .i64 0, .int .i64 0], []⟩).memory :=
  laidMet_of_run' 8 (by kernel_rfl) (by kernel_rfl)
theorem gray_reads (os : Os) {H : Type} (enc : TypeId × Value → H) : ∃ places, DataW.whole enc Tryd.prog ((laidWorld os).forCall (fun _ _ => 0) ⟨#[], #[.int .i64 0, .int .i64 0], []⟩).memory Tryd.f5.params.toList Rows.hallGraySpec.vars false #[.int .i64 0, .int .i64 0].toList 8 = some ([.lit (.int .i64 0), .lit (.int .i64 0)], [], places) :=
  ⟨[], by kernel_rfl⟩
set_option maxRecDepth 100000 in
theorem gray_lifted (os : Os) (started : os.Started) (H : Type) (enc : TypeId × Value → H) (I : Stop.Interp) :
    ReturnsInHanded {} Tryd.checked os 5 .any ((OpenSpec.ofChange Rows.hallGraySpec).preRow enc Tryd.prog Tryd.f5 Rows.hallGrayRow.domain false Rows.hallGrayRow.laid) (((OpenSpec.ofChange Rows.hallGraySpec).at I).post enc Tryd.prog Tryd.f5 false true false false) := by
  obtain ⟨places, hx⟩ := gray_reads os enc
  refine returnsInHanded_of_row (C := Tryd.checked) (s := OpenSpec.ofChange Rows.hallGraySpec) Tryd.own started (by kernel_rfl) Tryd.func5
    (witness_row_at (enc := enc) (C := Tryd.checked) false (laidWorld os) #[.int .i64 0, .int .i64 0] rfl (by kernel_rfl) (by kernel_rfl) (by kernel_rfl)
      (OpenSpec.preRow_of_cond 8 hx (by kernel_rfl) (fun k hk => by cases hk) (by kernel_rfl) (gray_laidMet os))) ?_
  intro W base args ds gs before hval0 hW _ _ _ hL _ _
  have T : Tabs W := tabs_of hL
  have hval : ∀ (j : Nat) t v, Tryd.f5.params[j]? = some t → args[j]? = some v → Value.okWide Tryd.prog W .any base t v := hval0
  have hW' := hW
  obtain ⟨p, q, hA0, hV, _, _, _⟩ := hW'
  obtain rfl : gs = [] := (trodVars_none hV).1
  have hA : DataW.TrodAll enc Tryd.prog W 0 (fun _ => true) true Tryd.f5.params.toList args.toList ds p := hA0
  rw [Tryd.params5] at hA hval
  obtain ⟨v0, v1, d0, d1, p0, p1, rfl, rfl, rfl, h0, h1⟩ := trodAll_two hA
  obtain ⟨x0, rfl, rfl, rfl, wf0⟩ := open_int Tryd.underlying3 (hval 0 3 v0 rfl rfl) h0
  obtain ⟨x1, rfl, rfl, rfl, wf1⟩ := open_int Tryd.underlying3 (hval 1 3 v1 rfl rfl) h1
  refine (show Calls Tryd.prog 5 _ W fun e w' => e = .returned (.bool true) ∧ Below W.heap.size W w' by exact gray_law x0 x1 W T).mono fun e W' ⟨he, hb⟩ => ⟨_, he, ?_⟩
  exact post_law Tryd.laidOut (by kernel_rfl) rfl Tryd.underlying4 rfl hW rfl hb

theorem gray_row : Rows.HallGraySaid :=
  OpenClaim.holds_of_cond 5 Tryd.f5 rfl rfl rfl rfl rfl rfl rfl ⟨rfl, rfl, rfl, rfl, rfl⟩ rfl rfl rfl rfl rfl (by kernel_rfl) Tryd.func5 (by kernel_rfl)
    (of_decide_eq_true (by kernel_rfl)) (by unfold Func.isWrapper; rw [if_neg (of_decide_eq_false (by kernel_rfl))]; exact ⟨rfl, rfl⟩)
    (fun os started H enc _ I => by rw [OpenClaim.pre_eq_preRow]; exact gray_lifted os started H enc I)

theorem gray_plain (f : FuncId) (fn : Func) (hf : Tryd.pinned.checked.prog.funcNamed Rows.hallGrayRow.func = some f) (hfn : Tryd.pinned.checked.prog.funcs[f]? = some fn) :
    true = Tryd.pinned.checked.prog.looks [] ∧ ∀ (j : Nat) t, fn.params[j]? = some t → Tryd.pinned.checked.prog.wantsStandIn t = false := by
  obtain rfl : f = 5 := Option.some.inj ((show Tryd.prog.funcNamed Rows.hallGrayRow.func = some 5 by kernel_rfl).symm.trans hf) |>.symm
  obtain rfl : fn = Tryd.f5 := (Option.some.inj (Tryd.func5.symm.trans hfn)).symm
  refine ⟨by kernel_rfl, fun j t ht => ?_⟩
  rw [Tryd.params5] at ht
  have hm : t ∈ [3, 3] := by simpa using Array.mem_of_getElem? ht
  have hall : ([3, 3].all fun u => !Tryd.prog.wantsStandIn u) = true := by kernel_rfl
  exact (show Tryd.prog.wantsStandIn t = false by simpa using List.all_eq_true.1 hall t hm)

theorem gray_holds : Rows.HallGrayCardSaid :=
  Claim7.holds_tied_plain_at .later [] [.data, .data] true (true, "1a6b162c44d0ffeb74effc336f490e2b559548398b69b86b9387293e71de1f4a") true gray_row (fun _ h => by cases h) (by kernel_rfl) (fun _ h => by cases h) hallGray_row_tie rfl ⟨rfl, rfl⟩ (by kernel_rfl) rfl gray_plain (by kernel_rfl)
#print axioms gray_holds

end Go.Proofs.YtehkmnkbmhldgaaDoor
