/- The walk of HallSteps. -/
import Derived.Test.YtehkmnkbmhldgaaDoorAwake
namespace Go.Proofs.YtehkmnkbmhldgaaDoor
open Go.RowKit

set_option maxHeartbeats 1600000 in
theorem steps_any (s : HS) (c : Int) (w : World) (T : Tabs w) : Calls Tryd.prog 3 #[.agg #[.int .i64 s.sec, .int .i64 s.dir, .int .i64 s.since, .int .i64 s.span, .int .i64 s.bad, .int .i64 s.jump, .bool s.st], .int .i64 c] w fun e w' => e = .returned (.bool true) ∧ Below w.heap.size w w' := by
  have AW := Lib.hid awake_any
  have SA := Lib.hid (Step_any s c)
  have RA := Lib.hid (rStep_any s c)
  generalize stn (nrm s) (secF c) = n at *
  go_enter Tryd.func3, Tryd.ntmps3
  go_wp2_with fail
  have K0 := (Kp.base w).new #[.int .i64 s.sec, .int .i64 s.dir, .int .i64 s.since, .int .i64 s.span, .int .i64 s.bad, .int .i64 s.jump, .bool s.st] 23
  first
    | go_region_held3 (fun w' => ∀ i, w'.cell? ⟨w.heap.size, i, none⟩ = (#[.int .i64 s.sec, .int .i64 s.dir, .int .i64 s.since, .int .i64 s.span, .int .i64 s.bad, .int .i64 s.jump, .bool s.st] : Array Value)[i]?)
      (first
        | exact K0.1.cell
        | exact K1.1.cell
        | exact K2.1.cell
        | exact K3.1.cell)
      (first
        | (go_at_call 10; (with_reducible refine (AW.out _ (T.below K0.drew.below)).mono ?_); rintro e w1 ⟨rfl, hb1⟩; have K1 := K0.drew.call hb1)
        | (go_at_call 11; (with_reducible refine (SA.out _ (T.below K1.below)).mono ?_); rintro e w2 ⟨rfl, hb2⟩; have K2 := K1.call hb2)
        | (go_at_call 12; (with_reducible refine (RA.out _).mono ?_); rintro e w3 ⟨rfl, hb3⟩; have K3 := K2.call hb3))
    | fail "held3"
  go_wp2_with fail
  go_ret
  exact ⟨ret_bool (by simp), K3.below⟩
end Go.Proofs.YtehkmnkbmhldgaaDoor
