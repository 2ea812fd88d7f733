/- The walk of normal of layer 33. -/
import Derived.Test.YtehkmnkbmhldgaaDoorLeafs
import Derived.Deep.RegionWith
namespace Go.Proofs.YtehkmnkbmhldgaaDoor
open Go.RowKit

set_option maxHeartbeats 4000000 in
theorem normal_any (s : HS) (w : World) : Calls Tryd.prog 26 #[.agg #[.int .i64 s.sec, .int .i64 s.dir, .int .i64 s.since, .int .i64 s.span, .int .i64 s.bad, .int .i64 s.jump, .bool s.st]] w fun e w' => e = .returned (.agg #[.int .i64 (nrm s).sec, .int .i64 (nrm s).dir, .int .i64 (nrm s).since, .int .i64 (nrm s).span, .int .i64 (nrm s).bad, .int .i64 (nrm s).jump, .bool (nrm s).st]) ∧ Below w.heap.size w w' := by
  have em := tmod_mod s.sec 6 (by decide)
  have h1 := tspec s.sec 6 (by decide)
  have h3 : -6 < s.sec.tmod 6 ∧ s.sec.tmod 6 < 6 := by
    rcases Int.le_total 0 s.sec with h0 | h0
    · have := h1.2.1 h0; omega
    · have := h1.2.2 h0; omega
  have e1 : IntKind.i64.wrap (s.sec.tmod 6 + 6) = s.sec.tmod 6 + 6 := IntWalk.i64_in _ (by omega)
  clear h1
  go_enter Tryd.func26, Tryd.ntmps26
  go_wp2_with (go_at_call 30; refine (clip_any _ _ _ (by omega) _).mono ?_; rintro e w' ⟨rfl, rfl⟩)
  go_region_with (go_at_call 30; refine (clip_any _ _ _ (by omega) _).mono ?_; rintro e w' ⟨rfl, rfl⟩)
  all_goals go_wp2_with fail
  all_goals go_region_with (go_at_call 30; refine (clip_any _ _ _ (by omega) _).mono ?_; rintro e w' ⟨rfl, rfl⟩)
  all_goals go_wp2_with fail
  all_goals
    refine bodyPost_ret (v := .agg #[.int .i64 (nrm s).sec, .int .i64 (nrm s).dir, .int .i64 (nrm s).since, .int .i64 (nrm s).span, .int .i64 (nrm s).bad, .int .i64 (nrm s).jump, .bool (nrm s).st]) ?_ rfl ⟨rfl, ?_⟩
    · simp [results, Tryd.results26, go_sem, nrm]
    · exact ((below_box (below_box (Below.refl w.heap.size w) _) _).drew).drew
end Go.Proofs.YtehkmnkbmhldgaaDoor
