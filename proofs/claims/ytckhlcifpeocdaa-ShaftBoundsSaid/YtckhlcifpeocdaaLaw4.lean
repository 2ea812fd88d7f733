/- ShaftBounds: the walks. -/
import Derived.Test.YtckhlcifpeocdaaStop
namespace Go.Proofs.Ytckhlcifpeocdaa
open Go.RowKit

theorem is_three (w : World) : Calls Try.prog 28 #[.iface 54 (.int .i64 3), .int .i64 3] w fun e w' => e = .returned (.bool true) ∧ w = w' := is_any 3 3 w

set_option maxHeartbeats 2000000 in
theorem bounds_no {G D R : Int} (p v M k : Int) (h : ¬ okC G D R) (w : World) : Calls Try.prog 11 #[.agg #[.int .i64 G, .int .i64 D, .int .i64 R], .agg #[.int .i64 p, .int .i64 v], .agg #[.int .i64 M, .int .i64 k]] w fun e w' => e = .returned (.bool true) ∧ Below w.heap.size w w' := by
  go_enter Try.func11, Try.ntmps11
  go_wp2_with fail
  (with_reducible refine (awake_any _).mono ?_)
  rintro e w1 ⟨rfl, hb1⟩
  obtain ⟨c1, cc1, fc1, zc1⟩ := (((Blk.new (w) 23 #[.int .i64 G, .int .i64 D, .int .i64 R]).alloc _).alloc _).next hb1
  obtain ⟨s1, cs1, fs1, zs1⟩ := ((Blk.new ((w).alloc _) 32 #[.int .i64 p, .int .i64 v]).alloc _).next hb1
  obtain ⟨x1, cx1, fx1, zx1⟩ := (Blk.new (((w).alloc _).alloc _) 51 #[.int .i64 M, .int .i64 k]).next hb1
  try simp at c1 cc1 fc1 zc1 s1 cs1 fs1 zs1 x1 cx1 fx1 zx1
  have B1 := below_call (below_box (below_box (below_box (Below.refl w.heap.size w) _) _) _) hb1
  go_wp2_with fail
  (with_reducible refine (Fastest_no _ _ _ _ h _).mono ?_)
  rintro e w2 ⟨rfl, hb2⟩
  obtain ⟨c2, cc2, fc2, zc2⟩ := (c1).next hb2
  obtain ⟨s2, cs2, fs2, zs2⟩ := (s1).next hb2
  obtain ⟨x2, cx2, fx2, zx2⟩ := (x1).next hb2
  try simp at c2 cc2 fc2 zc2 s2 cs2 fs2 zs2 x2 cx2 fx2 zx2
  have B2 := below_call (B1) hb2
  clear cc1 fc1 zc1 cs1 fs1 zs1 cx1 fx1 zx1
  go_wp2_with fail
  (with_reducible refine (Stop_no _ _ h _).mono ?_)
  rintro e w3 ⟨rfl, hb3⟩
  obtain ⟨c3, cc3, fc3, zc3⟩ := (c2).next hb3
  obtain ⟨s3, cs3, fs3, zs3⟩ := (s2).next hb3
  obtain ⟨x3, cx3, fx3, zx3⟩ := (x2).next hb3
  try simp at c3 cc3 fc3 zc3 s3 cs3 fs3 zs3 x3 cx3 fx3 zx3
  have B3 := below_call (B2) hb3
  clear cc2 fc2 zc2 cs2 fs2 zs2 cx2 fx2 zx2
  go_wp2_with fail
  (with_reducible refine (rCheck_no _ _ _ h _).mono ?_)
  rintro e w4 ⟨rfl, hb4⟩
  obtain ⟨c4, cc4, fc4, zc4⟩ := (c3).next hb4
  obtain ⟨s4, cs4, fs4, zs4⟩ := (s3).next hb4
  obtain ⟨x4, cx4, fx4, zx4⟩ := (x3).next hb4
  try simp at c4 cc4 fc4 zc4 s4 cs4 fs4 zs4 x4 cx4 fx4 zx4
  have B4 := below_call (B3) hb4
  clear cc3 fc3 zc3 cs3 fs3 zs3 cx3 fx3 zx3
  go_wp2_with fail
  (with_reducible refine (num_three _).mono ?_)
  rintro e w' ⟨rfl, rfl⟩
  go_wp2_with fail
  (with_reducible refine (num_three _).mono ?_)
  rintro e w' ⟨rfl, rfl⟩
  go_wp2_with fail
  go_ret
  exact ⟨rfl, B4⟩

set_option maxHeartbeats 4000000 in
theorem bounds_range {G D R : Int} (p v M k : Int) (h : okC G D R) (hs : ¬ okS M k) (b : Int) (eb : Value) (code : Int)
    (HS : Hid (∀ W, Calls Try.prog 27 #[.agg #[.int .i64 G, .int .i64 D, .int .i64 R], .agg #[.int .i64 p, .int .i64 v]] W fun e w' => e = .returned (.tuple #[.int .i64 b, eb]) ∧ Below W.heap.size W w'))
    (HR : Hid (∀ W, Calls Try.prog 30 #[.agg #[.int .i64 G, .int .i64 D, .int .i64 R], .agg #[.int .i64 p, .int .i64 v]] W fun e w' => e = .returned (.tuple #[.int .i64 b, .int .i64 code]) ∧ Below W.heap.size W w'))
    (HN : Hid (∀ W, Calls Try.prog 13 #[eb] W fun e w' => e = .returned (.int .i64 code) ∧ W = w')) (w : World) : Calls Try.prog 11 #[.agg #[.int .i64 G, .int .i64 D, .int .i64 R], .agg #[.int .i64 p, .int .i64 v], .agg #[.int .i64 M, .int .i64 k]] w fun e w' => e = .returned (.bool true) ∧ Below w.heap.size w w' := by
  have cs : (M < 0) ∨ (0 ≤ M ∧ 33554432 < M) ∨ (0 ≤ M ∧ M ≤ 33554432 ∧ k < 0) ∨ (0 ≤ M ∧ M ≤ 33554432 ∧ 0 ≤ k ∧ 1048576 < k) := by unfold okS at hs; omega
  rcases cs with h1 | ⟨h1, h2⟩ | ⟨h1, h2, h3⟩ | ⟨h1, h2, h3, h4⟩
  all_goals
    go_enter Try.func11, Try.ntmps11
    go_wp2_with fail
    (with_reducible refine (awake_any _).mono ?_)
    rintro e w1 ⟨rfl, hb1⟩
    obtain ⟨c1, cc1, fc1, zc1⟩ := (((Blk.new (w) 23 #[.int .i64 G, .int .i64 D, .int .i64 R]).alloc _).alloc _).next hb1
    obtain ⟨s1, cs1, fs1, zs1⟩ := ((Blk.new ((w).alloc _) 32 #[.int .i64 p, .int .i64 v]).alloc _).next hb1
    obtain ⟨x1, cx1, fx1, zx1⟩ := (Blk.new (((w).alloc _).alloc _) 51 #[.int .i64 M, .int .i64 k]).next hb1
    try simp at c1 cc1 fc1 zc1 s1 cs1 fs1 zs1 x1 cx1 fx1 zx1
    have B1 := below_call (below_box (below_box (below_box (Below.refl w.heap.size w) _) _) _) hb1
    go_wp2_with fail
    (with_reducible refine (Fastest_range _ _ _ _ h hs _).mono ?_)
    rintro e w2 ⟨rfl, hb2⟩
    obtain ⟨c2, cc2, fc2, zc2⟩ := (c1).next hb2
    obtain ⟨s2, cs2, fs2, zs2⟩ := (s1).next hb2
    obtain ⟨x2, cx2, fx2, zx2⟩ := (x1).next hb2
    try simp at c2 cc2 fc2 zc2 s2 cs2 fs2 zs2 x2 cx2 fx2 zx2
    have B2 := below_call (B1) hb2
    clear cc1 fc1 zc1 cs1 fs1 zs1 cx1 fx1 zx1
    go_wp2_with fail
    (with_reducible refine (HS.out _).mono ?_)
    rintro e w3 ⟨rfl, hb3⟩
    obtain ⟨c3, cc3, fc3, zc3⟩ := (c2).next hb3
    obtain ⟨s3, cs3, fs3, zs3⟩ := (s2).next hb3
    obtain ⟨x3, cx3, fx3, zx3⟩ := (x2).next hb3
    try simp at c3 cc3 fc3 zc3 s3 cs3 fs3 zs3 x3 cx3 fx3 zx3
    have B3 := below_call (B2) hb3
    clear cc2 fc2 zc2 cs2 fs2 zs2 cx2 fx2 zx2
    go_wp2_with fail
    (with_reducible refine (rCheck_yes _ _ _ h _).mono ?_)
    rintro e w4 ⟨rfl, hb4⟩
    obtain ⟨c4, cc4, fc4, zc4⟩ := (c3).next hb4
    obtain ⟨s4, cs4, fs4, zs4⟩ := (s3).next hb4
    obtain ⟨x4, cx4, fx4, zx4⟩ := (x3).next hb4
    try simp at c4 cc4 fc4 zc4 s4 cs4 fs4 zs4 x4 cx4 fx4 zx4
    have B4 := below_call (B3) hb4
    clear cc3 fc3 zc3 cs3 fs3 zs3 cx3 fx3 zx3
    go_wp2_with fail
    (with_reducible refine (is_three _).mono ?_)
    rintro e w' ⟨rfl, rfl⟩
    go_wp2_with fail
    (with_reducible refine (HR.out _).mono ?_)
    rintro e w5 ⟨rfl, hb5⟩
    obtain ⟨c5, cc5, fc5, zc5⟩ := (c4).next hb5
    obtain ⟨s5, cs5, fs5, zs5⟩ := (s4).next hb5
    obtain ⟨x5, cx5, fx5, zx5⟩ := (x4).next hb5
    try simp at c5 cc5 fc5 zc5 s5 cs5 fs5 zs5 x5 cx5 fx5 zx5
    have B5 := below_call (B4) hb5
    clear cc4 fc4 zc4 cs4 fs4 zs4 cx4 fx4 zx4
    go_wp2_with fail
    (with_reducible refine (HN.out _).mono ?_)
    rintro e w' ⟨rfl, rfl⟩
    go_wp2_with fail
    go_ret
    exact ⟨rfl, B5⟩

set_option maxHeartbeats 4000000 in
theorem bounds_fine {G D R : Int} (p v M k : Int) (h : okC G D R) (hs : okS M k) (b : Int) (eb : Value) (code : Int)
    (HS : Hid (∀ W, Calls Try.prog 27 #[.agg #[.int .i64 G, .int .i64 D, .int .i64 R], .agg #[.int .i64 p, .int .i64 v]] W fun e w' => e = .returned (.tuple #[.int .i64 b, eb]) ∧ Below W.heap.size W w'))
    (HR : Hid (∀ W, Calls Try.prog 30 #[.agg #[.int .i64 G, .int .i64 D, .int .i64 R], .agg #[.int .i64 p, .int .i64 v]] W fun e w' => e = .returned (.tuple #[.int .i64 b, .int .i64 code]) ∧ Below W.heap.size W w'))
    (HN : Hid (∀ W, Calls Try.prog 13 #[eb] W fun e w' => e = .returned (.int .i64 code) ∧ W = w')) (w : World) : Calls Try.prog 11 #[.agg #[.int .i64 G, .int .i64 D, .int .i64 R], .agg #[.int .i64 p, .int .i64 v], .agg #[.int .i64 M, .int .i64 k]] w fun e w' => e = .returned (.bool true) ∧ Below w.heap.size w w' := by
  have cs : 0 ≤ M ∧ M ≤ 33554432 ∧ 0 ≤ k ∧ k ≤ 1048576 := hs
  rcases cs with ⟨h1, h2, h3, h4⟩
  all_goals
    go_enter Try.func11, Try.ntmps11
    go_wp2_with fail
    (with_reducible refine (awake_any _).mono ?_)
    rintro e w1 ⟨rfl, hb1⟩
    obtain ⟨c1, cc1, fc1, zc1⟩ := (((Blk.new (w) 23 #[.int .i64 G, .int .i64 D, .int .i64 R]).alloc _).alloc _).next hb1
    obtain ⟨s1, cs1, fs1, zs1⟩ := ((Blk.new ((w).alloc _) 32 #[.int .i64 p, .int .i64 v]).alloc _).next hb1
    obtain ⟨x1, cx1, fx1, zx1⟩ := (Blk.new (((w).alloc _).alloc _) 51 #[.int .i64 M, .int .i64 k]).next hb1
    try simp at c1 cc1 fc1 zc1 s1 cs1 fs1 zs1 x1 cx1 fx1 zx1
    have B1 := below_call (below_box (below_box (below_box (Below.refl w.heap.size w) _) _) _) hb1
    go_wp2_with fail
    (with_reducible refine (Fastest_yes _ _ _ _ h hs _).mono ?_)
    rintro e w2 ⟨rfl, hb2⟩
    obtain ⟨c2, cc2, fc2, zc2⟩ := (c1).next hb2
    obtain ⟨s2, cs2, fs2, zs2⟩ := (s1).next hb2
    obtain ⟨x2, cx2, fx2, zx2⟩ := (x1).next hb2
    try simp at c2 cc2 fc2 zc2 s2 cs2 fs2 zs2 x2 cx2 fx2 zx2
    have B2 := below_call (B1) hb2
    clear cc1 fc1 zc1 cs1 fs1 zs1 cx1 fx1 zx1
    go_wp2_with fail
    (with_reducible refine (HS.out _).mono ?_)
    rintro e w3 ⟨rfl, hb3⟩
    obtain ⟨c3, cc3, fc3, zc3⟩ := (c2).next hb3
    obtain ⟨s3, cs3, fs3, zs3⟩ := (s2).next hb3
    obtain ⟨x3, cx3, fx3, zx3⟩ := (x2).next hb3
    try simp at c3 cc3 fc3 zc3 s3 cs3 fs3 zs3 x3 cx3 fx3 zx3
    have B3 := below_call (B2) hb3
    clear cc2 fc2 zc2 cs2 fs2 zs2 cx2 fx2 zx2
    go_wp2_with fail
    (with_reducible refine (rCheck_yes _ _ _ h _).mono ?_)
    rintro e w4 ⟨rfl, hb4⟩
    obtain ⟨c4, cc4, fc4, zc4⟩ := (c3).next hb4
    obtain ⟨s4, cs4, fs4, zs4⟩ := (s3).next hb4
    obtain ⟨x4, cx4, fx4, zx4⟩ := (x3).next hb4
    try simp at c4 cc4 fc4 zc4 s4 cs4 fs4 zs4 x4 cx4 fx4 zx4
    have B4 := below_call (B3) hb4
    clear cc3 fc3 zc3 cs3 fs3 zs3 cx3 fx3 zx3
    go_wp2_with fail
    (with_reducible refine (rFastest_yes _ _ _ _ h hs _).mono ?_)
    rintro e w5 ⟨rfl, hb5⟩
    obtain ⟨c5, cc5, fc5, zc5⟩ := (c4).next hb5
    obtain ⟨s5, cs5, fs5, zs5⟩ := (s4).next hb5
    obtain ⟨x5, cx5, fx5, zx5⟩ := (x4).next hb5
    try simp at c5 cc5 fc5 zc5 s5 cs5 fs5 zs5 x5 cx5 fx5 zx5
    have B5 := below_call (B4) hb5
    clear cc4 fc4 zc4 cs4 fs4 zs4 cx4 fx4 zx4
    go_wp2_with fail
    (with_reducible refine (HR.out _).mono ?_)
    rintro e w6 ⟨rfl, hb6⟩
    obtain ⟨c6, cc6, fc6, zc6⟩ := (c5).next hb6
    obtain ⟨s6, cs6, fs6, zs6⟩ := (s5).next hb6
    obtain ⟨x6, cx6, fx6, zx6⟩ := (x5).next hb6
    try simp at c6 cc6 fc6 zc6 s6 cs6 fs6 zs6 x6 cx6 fx6 zx6
    have B6 := below_call (B5) hb6
    clear cc5 fc5 zc5 cs5 fs5 zs5 cx5 fx5 zx5
    go_wp2_with fail
    (with_reducible refine (HN.out _).mono ?_)
    rintro e w' ⟨rfl, rfl⟩
    go_wp2_with fail
    go_ret
    exact ⟨rfl, B6⟩

theorem bounds_any (G D R p v M k : Int) (w : World) : Calls Try.prog 11 #[.agg #[.int .i64 G, .int .i64 D, .int .i64 R], .agg #[.int .i64 p, .int .i64 v], .agg #[.int .i64 M, .int .i64 k]] w fun e w' => e = .returned (.bool true) ∧ Below w.heap.size w w' := by
  by_cases h : okC G D R
  · have n22 : ∀ W, Calls Try.prog 13 #[.iface 54 (.int .i64 22)] W fun e w' => e = .returned (.int .i64 22) ∧ W = w' := fun W => num_any 22 W
    by_cases hk : dec G R = 0 <;> by_cases hs : okS M k
    · exact bounds_fine p v M k h hs _ _ _ (Lib.hid (Stop_null p v h hk)) (Lib.hid (rStop_null p v h hk)) (Lib.hid n22) w
    · exact bounds_range p v M k h hs _ _ _ (Lib.hid (Stop_null p v h hk)) (Lib.hid (rStop_null p v h hk)) (Lib.hid n22) w
    · exact bounds_fine p v M k h hs _ _ _ (Lib.hid (Stop_yes p v h hk)) (Lib.hid (rStop_yes p v h hk)) (Lib.hid num_nil) w
    · exact bounds_range p v M k h hs _ _ _ (Lib.hid (Stop_yes p v h hk)) (Lib.hid (rStop_yes p v h hk)) (Lib.hid num_nil) w
  · exact bounds_no p v M k h w
end Go.Proofs.Ytckhlcifpeocdaa
