/- The walk of the reference's step of layer 41 from a started state. -/
import Derived.Test.YtifdgcenpnnciaaSteps
import Derived.Deep.DeepCutAuto
import Derived.Deep.RegionHeld3
import Derived.Lib.Hide
namespace Go.Proofs.Ytifdgcenpnnciaa
open Go.RowKit

set_option maxHeartbeats 4000000 in
theorem rStep_run (m x a v : Int) (w : World) (h : 0 ≤ m) (h2 : m ≤ 1073741824) :
    Calls Try.prog 10 #[.int .i64 m, .agg #[.int .i64 x, .bool true], .agg #[.int .i64 a, .int .i64 v]] w fun e w' => e = .returned (.tuple #[.agg #[.int .i64 (stp m x a v), .bool true], .int .i64 0]) ∧ Below w.heap.size w w' := by
  have hs : IntKind.i64.wrap (x % 4294967296 + max (-1073741824) (min v 1073741824)) = x % 4294967296 + max (-1073741824) (min v 1073741824) := IntWalk.i64_in _ (by omega)
  go_enter Try.func10, Try.ntmps10
  go_upto_region 5 with fail
  go_cut [8] (fun s8 wx => s8 = .pointer (some ⟨w.heap.size + 1 + 1 + 1, 0, none⟩) ∧ ∃ y n, Hid (y = (x % 4294967296 + max (-1073741824) (min v 1073741824)) % 4294967296) ∧ wx = ((((w.alloc (.cells #[.int .i64 x, .bool true] 23)).alloc (.cells #[.int .i64 a, .int .i64 v] 25)).alloc (.cells #[.int .i64 0, .bool false] 23)).alloc (.cells #[.int .i64 y, .bool true] 23)).drewN n)
  case first =>
    go_region_held3 (fun w' => w'.cell? ⟨w.heap.size, 0, none⟩ = some (.int .i64 x) ∧ w'.cell? ⟨w.heap.size + 1, 1, none⟩ = some (.int .i64 v)) (go_keep)
      (first | (go_at_call 21; refine (norm_any _ _).mono ?_; rintro e w' ⟨rfl, rfl⟩) | (go_at_call 17; refine (clip_any _ _ _ _).mono ?_; rintro e w' ⟨rfl, rfl⟩))
    all_goals (go_wp2_with fail; go_meet; exact ⟨rfl, _, 1, Lib.hid (by omega), rfl⟩)
  case rest =>
    obtain ⟨rfl, y, n, hy, rfl⟩ := hcut
    have hy0 : 0 ≤ y := by have := hy.out; omega
    have hy1 : y < 4294967296 := by have := hy.out; omega
    have hd := dst_le y a
    have hs2 : IntKind.i64.wrap (-m) = -m := IntWalk.i64_in _ (by omega)
    have hs3 : IntKind.i64.wrap (y + max (-m) (min (dst y a) m)) = y + max (-m) (min (dst y a) m) := IntWalk.i64_in _ (by omega)
    go_wp2_with fail
    go_region_with (first | (go_at_call 14; refine (rDistance_any _ _ _ _).mono ?_; rintro e w' ⟨rfl, hb⟩; obtain ⟨hc, hf, hz⟩ := far hb) | (go_at_call 21; refine (norm_any _ _).mono ?_; rintro e w' ⟨rfl, rfl⟩) | (go_at_call 17; refine (clip_any _ _ _ _).mono ?_; rintro e w' ⟨rfl, rfl⟩))
    all_goals
      simp at hz
      go_wp2_with fail
      refine bodyPost_ret (v := .tuple #[.agg #[.int .i64 (stp m x a v), .bool true], .int .i64 0]) ?_ rfl ⟨rfl, ?_⟩
      · have e : (y + max (-m) (min (dst y a) m)) % 4294967296 = stp m x a v := by unfold stp; rw [hy.out]; unfold dst; omega
        simp [results, Try.results10, go_sem, hc, e]
      · repeat' (first | exact Below.refl _ _ | refine Below.setCell ?_ ?_ _ | refine Below.alloc ?_ ?_ _ | refine below_drewN ?_ _ | refine Below.trans ?_ (hb.mono ?_) | (simp; done) | (simp; omega))
end Go.Proofs.Ytifdgcenpnnciaa
