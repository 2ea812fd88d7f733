/- The walk of the reference's Normal of layer 33. -/
import Derived.Test.YtehkmnkbmhldgaaDoorLeafs
import Derived.Deep.RegionWith
namespace Go.Proofs.YtehkmnkbmhldgaaDoor
open Go.RowKit

set_option maxHeartbeats 4000000 in
theorem rNormal_any (s : HS) (w : World) : Calls Tryd.prog 25 #[.agg #[.int .i64 s.sec, .int .i64 s.dir, .int .i64 s.since, .int .i64 s.span, .int .i64 s.bad, .int .i64 s.jump, .bool s.st]] w fun e w' => e = .returned (.agg #[.int .i64 (nrm s).sec, .int .i64 (nrm s).dir, .int .i64 (nrm s).since, .int .i64 (nrm s).span, .int .i64 (nrm s).bad, .int .i64 (nrm s).jump, .bool (nrm s).st]) ∧ Below w.heap.size w w' := by
  go_enter Tryd.func25, Tryd.ntmps25
  go_wp2_with (first
    | (go_at_call 28; refine (mod_any _ _ (by decide) (by decide) _).mono ?_; rintro e w' ⟨rfl, rfl⟩)
    | (go_at_call 31; refine (rclip_any _ _ _ _).mono ?_; rintro e w' ⟨rfl, rfl⟩))
  go_region_with (go_at_call 31; refine (rclip_any _ _ _ _).mono ?_; rintro e w' ⟨rfl, rfl⟩)
  all_goals go_wp2_with fail
  all_goals go_region_with (go_at_call 31; refine (rclip_any _ _ _ _).mono ?_; rintro e w' ⟨rfl, rfl⟩)
  all_goals go_wp2_with fail
  all_goals
    refine bodyPost_ret (v := .agg #[.int .i64 (nrm s).sec, .int .i64 (nrm s).dir, .int .i64 (nrm s).since, .int .i64 (nrm s).span, .int .i64 (nrm s).bad, .int .i64 (nrm s).jump, .bool (nrm s).st]) ?_ rfl ⟨rfl, ?_⟩
    · simp [results, Tryd.results25, go_sem, nrm]
    · exact ((below_box (below_box (Below.refl w.heap.size w) _) _).drew).drew
end Go.Proofs.YtehkmnkbmhldgaaDoor
