/- HallForward holds, for every input, the two tables starting as the program lays them. No other condition. -/
import Derived.Test.YtehkmnkbmhldgaaDoorLaw9
import Derived.Test.YtehkmnkbmhldgaaDoorTicks
namespace Go.Proofs.YtehkmnkbmhldgaaDoor
open Go.ChangeShapes Go.WideShapes Go.ChangeAt Go.RowKit Go.Joins

theorem forward_laidMet (os : Os) : laidMet Tryd.prog Rows.hallForwardRow.laid ((laidWorld os).forCall (fun _ _ => 0) ⟨#[], #[.int .u8 0, .bool false, .slice none 0 0], []⟩).memory :=
  laidMet_of_run' 8 (by kernel_rfl) (by kernel_rfl)
theorem forward_reads (os : Os) {H : Type} (enc : TypeId × Value → H) : ∃ places, DataW.whole enc Tryd.prog ((laidWorld os).forCall (fun _ _ => 0) ⟨#[], #[.int .u8 0, .bool false, .slice none 0 0], []⟩).memory Tryd.f7.params.toList Rows.hallForwardSpec.vars false #[.int .u8 0, .bool false, .slice none 0 0].toList 8 = some ([.lit (.int .u8 0), .lit (.bool false), .nil], [], places) :=
  ⟨[], by kernel_rfl⟩
set_option maxRecDepth 100000 in
theorem forward_lifted (os : Os) (started : os.Started) (H : Type) (enc : TypeId × Value → H) (I : Stop.Interp) :
    ReturnsInHanded {} Tryd.checked os 7 .any ((OpenSpec.ofChange Rows.hallForwardSpec).preRow enc Tryd.prog Tryd.f7 Rows.hallForwardRow.domain false Rows.hallForwardRow.laid) (((OpenSpec.ofChange Rows.hallForwardSpec).at I).post enc Tryd.prog Tryd.f7 false true false false) := by
  obtain ⟨places, hx⟩ := forward_reads os enc
  refine returnsInHanded_of_row (C := Tryd.checked) (s := OpenSpec.ofChange Rows.hallForwardSpec) Tryd.own started (by kernel_rfl) Tryd.func7
    (witness_row_at (enc := enc) (C := Tryd.checked) false (laidWorld os) #[.int .u8 0, .bool false, .slice none 0 0] rfl (by kernel_rfl) (by kernel_rfl) (by kernel_rfl)
      (OpenSpec.preRow_of_cond 8 hx (by kernel_rfl) (fun k hk => by cases hk) (by kernel_rfl) (forward_laidMet os))) ?_
  intro W base args ds gs before hval0 hW _ _ _ hL _ _
  have T : Tabs W := tabs_of hL
  have hval : ∀ (j : Nat) t v, Tryd.f7.params[j]? = some t → args[j]? = some v → Value.okWide Tryd.prog W .any base t v := hval0
  have hW' := hW
  obtain ⟨p, q, hA0, hV, _, _, _⟩ := hW'
  obtain rfl : gs = [] := (trodVars_none hV).1
  have hA : DataW.TrodAll enc Tryd.prog W 0 (fun _ => true) true Tryd.f7.params.toList args.toList ds p := hA0
  rw [Tryd.params7] at hA hval
  obtain ⟨v0, v1, v2, d0, d1, d2, p0, p1, p2, rfl, rfl, rfl, h0, h1, h2⟩ := trodAll_three hA
  obtain ⟨x0, rfl, rfl, rfl, wf0⟩ := open_int Tryd.underlying5 (hval 0 5 v0 rfl rfl) h0
  obtain ⟨y1, rfl, rfl, rfl⟩ := open_bool Tryd.underlying4 (hval 1 4 v1 rfl rfl) h1
  obtain ⟨B, n, c, tk, bd, rfl, hn, hc⟩ := open_ticks (hval 2 37 v2 rfl rfl) h2
  refine (show Calls Tryd.prog 7 _ W fun e w' => e = .returned (.bool true) ∧ Below W.heap.size W w' by exact fwd_any x0 y1 B n c tk bd (u8 wf0).1 hn W T hc).mono fun e W' ⟨he, hb⟩ => ⟨_, he, ?_⟩
  exact post_law Tryd.laidOut (by kernel_rfl) rfl Tryd.underlying4 rfl hW rfl hb

theorem forward_row : Rows.HallForwardSaid :=
  OpenClaim.holds_of_cond 7 Tryd.f7 rfl rfl rfl rfl rfl rfl rfl ⟨rfl, rfl, rfl, rfl, rfl⟩ rfl rfl rfl rfl rfl (by kernel_rfl) Tryd.func7 (by kernel_rfl)
    (of_decide_eq_true (by kernel_rfl)) (by unfold Func.isWrapper; rw [if_neg (of_decide_eq_false (by kernel_rfl))]; exact ⟨rfl, rfl⟩)
    (fun os started H enc _ I => by rw [OpenClaim.pre_eq_preRow]; exact forward_lifted os started H enc I)

theorem forward_plain (f : FuncId) (fn : Func) (hf : Tryd.pinned.checked.prog.funcNamed Rows.hallForwardRow.func = some f) (hfn : Tryd.pinned.checked.prog.funcs[f]? = some fn) :
    true = Tryd.pinned.checked.prog.looks [] ∧ ∀ (j : Nat) t, fn.params[j]? = some t → Tryd.pinned.checked.prog.wantsStandIn t = false := by
  obtain rfl : f = 7 := Option.some.inj ((show Tryd.prog.funcNamed Rows.hallForwardRow.func = some 7 by kernel_rfl).symm.trans hf) |>.symm
  obtain rfl : fn = Tryd.f7 := (Option.some.inj (Tryd.func7.symm.trans hfn)).symm
  refine ⟨by kernel_rfl, fun j t ht => ?_⟩
  rw [Tryd.params7] at ht
  have hm : t ∈ [5, 4, 37] := by simpa using Array.mem_of_getElem? ht
  have hall : ([5, 4, 37].all fun u => !Tryd.prog.wantsStandIn u) = true := by kernel_rfl
  exact (show Tryd.prog.wantsStandIn t = false by simpa using List.all_eq_true.1 hall t hm)

theorem forward_holds : Rows.HallForwardCardSaid :=
  Claim7.holds_tied_plain_at .later [] [.data, .data] true (true, "1a6b162c44d0ffeb74effc336f490e2b559548398b69b86b9387293e71de1f4a") true forward_row (fun _ h => by cases h) (by kernel_rfl) (fun _ h => by cases h) hallForward_row_tie rfl ⟨rfl, rfl⟩ (by kernel_rfl) rfl forward_plain (by kernel_rfl)
#print axioms forward_holds

end Go.Proofs.YtehkmnkbmhldgaaDoor
