/- HallAngles holds, for every input, the two tables starting as the program lays them. No other condition. -/
import Derived.Test.YtehkmnkbmhldgaaDoorLaw2
import Derived.Test.YtehkmnkbmhldgaaDoorClose
namespace Go.Proofs.YtehkmnkbmhldgaaDoor
open Go.ChangeShapes Go.WideShapes Go.ChangeAt Go.RowKit Go.Joins

theorem angles_laidMet (os : Os) : laidMet Tryd.prog Rows.hallAnglesRow.laid ((laidWorld os).forCall (fun _ _ => 0) ⟨#[], #[.agg #[.int .i64 0, .int .i64 0, .int .i64 0, .int .i64 0, .int .i64 0, .int .i64 0, .bool false]], []⟩).memory :=
  laidMet_of_run' 8 (by kernel_rfl) (by kernel_rfl)
theorem angles_reads (os : Os) {H : Type} (enc : TypeId × Value → H) : ∃ places, DataW.whole enc Tryd.prog ((laidWorld os).forCall (fun _ _ => 0) ⟨#[], #[.agg #[.int .i64 0, .int .i64 0, .int .i64 0, .int .i64 0, .int .i64 0, .int .i64 0, .bool false]], []⟩).memory Tryd.f8.params.toList Rows.hallAnglesSpec.vars false #[.agg #[.int .i64 0, .int .i64 0, .int .i64 0, .int .i64 0, .int .i64 0, .int .i64 0, .bool false]].toList 8 = some ([.agg [.lit (.int .i64 0), .lit (.int .i64 0), .lit (.int .i64 0), .lit (.int .i64 0), .lit (.int .i64 0), .lit (.int .i64 0), .lit (.bool false)]], [], places) :=
  ⟨[], by kernel_rfl⟩
set_option maxRecDepth 100000 in
theorem angles_lifted (os : Os) (started : os.Started) (H : Type) (enc : TypeId × Value → H) (I : Stop.Interp) :
    ReturnsInHanded {} Tryd.checked os 8 .any ((OpenSpec.ofChange Rows.hallAnglesSpec).preRow enc Tryd.prog Tryd.f8 Rows.hallAnglesRow.domain false Rows.hallAnglesRow.laid) (((OpenSpec.ofChange Rows.hallAnglesSpec).at I).post enc Tryd.prog Tryd.f8 false true false false) := by
  obtain ⟨places, hx⟩ := angles_reads os enc
  refine returnsInHanded_of_row (C := Tryd.checked) (s := OpenSpec.ofChange Rows.hallAnglesSpec) Tryd.own started (by kernel_rfl) Tryd.func8
    (witness_row_at (enc := enc) (C := Tryd.checked) false (laidWorld os) #[.agg #[.int .i64 0, .int .i64 0, .int .i64 0, .int .i64 0, .int .i64 0, .int .i64 0, .bool false]] rfl (by kernel_rfl) (by kernel_rfl) (by kernel_rfl)
      (OpenSpec.preRow_of_cond 8 hx (by kernel_rfl) (fun k hk => by cases hk) (by kernel_rfl) (angles_laidMet os))) ?_
  intro W base args ds gs before hval0 hW _ _ _ hL _ _
  have T : Tabs W := tabs_of hL
  have hval : ∀ (j : Nat) t v, Tryd.f8.params[j]? = some t → args[j]? = some v → Value.okWide Tryd.prog W .any base t v := hval0
  have hW' := hW
  obtain ⟨p, q, hA0, hV, _, _, _⟩ := hW'
  obtain rfl : gs = [] := (trodVars_none hV).1
  have hA : DataW.TrodAll enc Tryd.prog W 0 (fun _ => true) true Tryd.f8.params.toList args.toList ds p := hA0
  rw [Tryd.params8] at hA hval
  obtain ⟨v0, d0, rfl, rfl, h0⟩ := trodAll_one hA
  obtain ⟨s, rfl⟩ := open_state (hval 0 23 v0 rfl rfl) h0
  refine (show Calls Tryd.prog 8 _ W fun e w' => e = .returned (.bool true) ∧ Below W.heap.size W w' by exact angles_law s W T).mono fun e W' ⟨he, hb⟩ => ⟨_, he, ?_⟩
  exact post_law Tryd.laidOut (by kernel_rfl) rfl Tryd.underlying4 rfl hW rfl hb

theorem angles_row : Rows.HallAnglesSaid :=
  OpenClaim.holds_of_cond 8 Tryd.f8 rfl rfl rfl rfl rfl rfl rfl ⟨rfl, rfl, rfl, rfl, rfl⟩ rfl rfl rfl rfl rfl (by kernel_rfl) Tryd.func8 (by kernel_rfl)
    (of_decide_eq_true (by kernel_rfl)) (by unfold Func.isWrapper; rw [if_neg (of_decide_eq_false (by kernel_rfl))]; exact ⟨rfl, rfl⟩)
    (fun os started H enc _ I => by rw [OpenClaim.pre_eq_preRow]; exact angles_lifted os started H enc I)

theorem angles_plain (f : FuncId) (fn : Func) (hf : Tryd.pinned.checked.prog.funcNamed Rows.hallAnglesRow.func = some f) (hfn : Tryd.pinned.checked.prog.funcs[f]? = some fn) :
    true = Tryd.pinned.checked.prog.looks [] ∧ ∀ (j : Nat) t, fn.params[j]? = some t → Tryd.pinned.checked.prog.wantsStandIn t = false := by
  obtain rfl : f = 8 := Option.some.inj ((show Tryd.prog.funcNamed Rows.hallAnglesRow.func = some 8 by kernel_rfl).symm.trans hf) |>.symm
  obtain rfl : fn = Tryd.f8 := (Option.some.inj (Tryd.func8.symm.trans hfn)).symm
  refine ⟨by kernel_rfl, fun j t ht => ?_⟩
  rw [Tryd.params8] at ht
  have hm : t ∈ [23] := by simpa using Array.mem_of_getElem? ht
  have hall : ([23].all fun u => !Tryd.prog.wantsStandIn u) = true := by kernel_rfl
  exact (show Tryd.prog.wantsStandIn t = false by simpa using List.all_eq_true.1 hall t hm)

theorem angles_holds : Rows.HallAnglesCardSaid :=
  Claim7.holds_tied_plain_at .later [] [.data, .data] true (true, "1a6b162c44d0ffeb74effc336f490e2b559548398b69b86b9387293e71de1f4a") true angles_row (fun _ h => by cases h) (by kernel_rfl) (fun _ h => by cases h) hallAngles_row_tie rfl ⟨rfl, rfl⟩ (by kernel_rfl) rfl angles_plain (by kernel_rfl)
#print axioms angles_holds

end Go.Proofs.YtehkmnkbmhldgaaDoor
