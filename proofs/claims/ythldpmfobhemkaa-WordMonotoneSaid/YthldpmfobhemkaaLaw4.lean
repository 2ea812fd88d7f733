/- The contracts of Bounds and Clip; the walk of WordChecks. -/
import Derived.Test.YthldpmfobhemkaaLaw3
namespace Go.Proofs.Ythldpmfobhemkaa
open Go.RowKit

set_option maxHeartbeats 1000000 in
theorem Bounds_yes (b s : Int) (h : okF b s) (w : World) : Calls Try.prog 27 #[.agg #[.int .i64 b, .int .i64 s]] w fun e w' => e = .returned (.tuple #[.int .i64 (-(halfF b)), .int .i64 (halfF b - 1), .nilIface]) ∧ Below w.heap.size w w' := by
  have hA := h.1
  have hB := h.2.1
  go_enter Try.func27, Try.ntmps27
  go_wp2_with fail
  (with_reducible refine (Check_yes b s h _).mono ?_)
  rintro e w1 ⟨rfl, hb1⟩
  obtain ⟨bF1, cF1, fF1, zF1⟩ := (Blk.new w 23 #[.int .i64 b, .int .i64 s]).next hb1
  try simp at bF1 cF1 fF1 zF1
  have B1 := below_call (below_box (Below.refl w.heap.size w) _) hb1
  go_wp2_with fail
  (with_reducible refine (limits_any b s hA hB _).mono ?_)
  rintro e w2 ⟨rfl, hb2⟩
  obtain ⟨bF2, cF2, fF2, zF2⟩ := (bF1).next hb2
  try simp at bF2 cF2 fF2 zF2
  have B2 := below_call (B1) hb2
  clear cF1 fF1 zF1
  go_wp2_with fail
  refine bodyPost_ret (v := .tuple #[.int .i64 (-(halfF b)), .int .i64 (halfF b - 1), .nilIface]) ?_ rfl ⟨rfl, ?_⟩
  · simp [results, Try.results27, go_sem]
  · exact B2

set_option maxHeartbeats 1000000 in
theorem Bounds_no (b s : Int) (h : ¬ okF b s) (w : World) : Calls Try.prog 27 #[.agg #[.int .i64 b, .int .i64 s]] w fun e w' => e = .returned (.tuple #[.int .i64 0, .int .i64 0, .iface 67 (.int .i64 3)]) ∧ Below w.heap.size w w' := by
  go_enter Try.func27, Try.ntmps27
  go_wp2_with fail
  (with_reducible refine (Check_no b s h _).mono ?_)
  rintro e w1 ⟨rfl, hb1⟩
  obtain ⟨bF1, cF1, fF1, zF1⟩ := (Blk.new w 23 #[.int .i64 b, .int .i64 s]).next hb1
  try simp at bF1 cF1 fF1 zF1
  have B1 := below_call (below_box (Below.refl w.heap.size w) _) hb1
  go_wp2_with fail
  refine bodyPost_ret (v := .tuple #[.int .i64 0, .int .i64 0, .iface 67 (.int .i64 3)]) ?_ rfl ⟨rfl, ?_⟩
  · simp [results, Try.results27, go_sem]
  · exact B1

set_option maxHeartbeats 1000000 in
theorem Clip_yes (b s x : Int) (h : okF b s) (w : World) : Calls Try.prog 29 #[.agg #[.int .i64 b, .int .i64 s], .int .i64 x] w fun e w' => e = .returned (.tuple #[.int .i64 (satV b x), .bool (satB b x), .nilIface]) ∧ Below w.heap.size w w' := by
  have hA := h.1
  have hB := h.2.1
  go_enter Try.func29, Try.ntmps29
  go_wp2_with fail
  (with_reducible refine (Check_yes b s h _).mono ?_)
  rintro e w1 ⟨rfl, hb1⟩
  obtain ⟨bF1, cF1, fF1, zF1⟩ := (Blk.new w 23 #[.int .i64 b, .int .i64 s]).next hb1
  try simp at bF1 cF1 fF1 zF1
  have B1 := below_call (below_box (Below.refl w.heap.size w) _) hb1
  go_wp2_with fail
  (with_reducible refine (saturate_any b s x hA hB _).mono ?_)
  rintro e w2 ⟨rfl, hb2⟩
  obtain ⟨bF2, cF2, fF2, zF2⟩ := (bF1).next hb2
  try simp at bF2 cF2 fF2 zF2
  have B2 := below_call (B1) hb2
  clear cF1 fF1 zF1
  go_wp2_with fail
  refine bodyPost_ret (v := .tuple #[.int .i64 (satV b x), .bool (satB b x), .nilIface]) ?_ rfl ⟨rfl, ?_⟩
  · simp [results, Try.results29, go_sem]
  · exact B2

set_option maxHeartbeats 1000000 in
theorem Clip_no (b s x : Int) (h : ¬ okF b s) (w : World) : Calls Try.prog 29 #[.agg #[.int .i64 b, .int .i64 s], .int .i64 x] w fun e w' => e = .returned (.tuple #[.int .i64 0, .bool false, .iface 67 (.int .i64 3)]) ∧ Below w.heap.size w w' := by
  go_enter Try.func29, Try.ntmps29
  go_wp2_with fail
  (with_reducible refine (Check_no b s h _).mono ?_)
  rintro e w1 ⟨rfl, hb1⟩
  obtain ⟨bF1, cF1, fF1, zF1⟩ := (Blk.new w 23 #[.int .i64 b, .int .i64 s]).next hb1
  try simp at bF1 cF1 fF1 zF1
  have B1 := below_call (below_box (Below.refl w.heap.size w) _) hb1
  go_wp2_with fail
  refine bodyPost_ret (v := .tuple #[.int .i64 0, .bool false, .iface 67 (.int .i64 3)]) ?_ rfl ⟨rfl, ?_⟩
  · simp [results, Try.results29, go_sem]
  · exact B1

set_option maxHeartbeats 2000000 in
theorem checks_any (b s x : Int)  (w : World) : Calls Try.prog 10 #[.agg #[.int .i64 b, .int .i64 s], .int .i64 x] w fun e w' => e = .returned (.bool true) ∧ Below w.heap.size w w' := by
  by_cases h : okF b s
  · have H1 := Lib.hid (rCheck_yes b s h)
    have H2 := Lib.hid (Bounds_yes b s h)
    have H3 := Lib.hid (Clip_yes b s x h)
    have H4 := Lib.hid (Check_yes b s h)
    have H5 := Lib.hid (rClip_any b s x h.1 h.2.1)
    have H6 := Lib.hid (Least_any b s h.1 h.2.1)
    have H7 := Lib.hid (Greatest_any b s h.1 h.2.1)
    clear h
    generalize satV b x = v at *
    generalize satB b x = c at *
    generalize halfF b = t at *
    go_enter Try.func10, Try.ntmps10
    go_wp2_with fail
    (with_reducible refine (awake_any _).mono ?_)
    rintro e w1 ⟨rfl, hb1⟩
    obtain ⟨bF1, cF1, fF1, zF1⟩ := (Blk.new w 23 #[.int .i64 b, .int .i64 s]).next hb1
    try simp at bF1 cF1 fF1 zF1
    have B1 := below_call (below_box (Below.refl w.heap.size w) _) hb1
    go_wp2_with fail
    (with_reducible refine (H1.out _).mono ?_)
    rintro e w2 ⟨rfl, hb2⟩
    obtain ⟨bF2, cF2, fF2, zF2⟩ := (bF1).next hb2
    try simp at bF2 cF2 fF2 zF2
    have B2 := below_call (B1) hb2
    clear cF1 fF1 zF1
    go_wp2_with fail
    (with_reducible refine (H2.out _).mono ?_)
    rintro e w3 ⟨rfl, hb3⟩
    obtain ⟨bF3, cF3, fF3, zF3⟩ := (bF2).next hb3
    try simp at bF3 cF3 fF3 zF3
    have B3 := below_call (B2) hb3
    clear cF2 fF2 zF2
    go_wp2_with fail
    (with_reducible refine (H3.out _).mono ?_)
    rintro e w4 ⟨rfl, hb4⟩
    obtain ⟨bF4, cF4, fF4, zF4⟩ := (bF3).next hb4
    try simp at bF4 cF4 fF4 zF4
    have B4 := below_call (B3) hb4
    clear cF3 fF3 zF3
    go_wp2_with fail
    (with_reducible refine (H4.out _).mono ?_)
    rintro e w5 ⟨rfl, hb5⟩
    obtain ⟨bF5, cF5, fF5, zF5⟩ := (bF4).next hb5
    try simp at bF5 cF5 fF5 zF5
    have B5 := below_call (B4) hb5
    clear cF4 fF4 zF4
    go_wp2_with fail
    (with_reducible refine (num_nil _).mono ?_)
    rintro e w' ⟨rfl, rfl⟩
    go_wp2_with fail
    (with_reducible refine (num_nil _).mono ?_)
    rintro e w' ⟨rfl, rfl⟩
    go_wp2_with fail
    (with_reducible refine (num_nil _).mono ?_)
    rintro e w' ⟨rfl, rfl⟩
    go_wp2_with fail
    (with_reducible refine (H5.out _).mono ?_)
    rintro e w6 ⟨rfl, hb6⟩
    obtain ⟨bF6, cF6, fF6, zF6⟩ := (bF5).next hb6
    try simp at bF6 cF6 fF6 zF6
    have B6 := below_call (B5) hb6
    clear cF5 fF5 zF5
    go_wp2_with fail
    (with_reducible refine (H6.out _).mono ?_)
    rintro e w7 ⟨rfl, hb7⟩
    obtain ⟨bF7, cF7, fF7, zF7⟩ := (bF6).next hb7
    try simp at bF7 cF7 fF7 zF7
    have B7 := below_call (B6) hb7
    clear cF6 fF6 zF6
    go_wp2_with fail
    (with_reducible refine (H7.out _).mono ?_)
    rintro e w8 ⟨rfl, hb8⟩
    obtain ⟨bF8, cF8, fF8, zF8⟩ := (bF7).next hb8
    try simp at bF8 cF8 fF8 zF8
    have B8 := below_call (B7) hb8
    clear cF7 fF7 zF7
    go_wp2_with fail
    go_ret
    exact ⟨ret_bool (by simp), B8⟩
  · have H1 := Lib.hid (rCheck_no b s h)
    have H2 := Lib.hid (Bounds_no b s h)
    have H3 := Lib.hid (Clip_no b s x h)
    have H4 := Lib.hid (Check_no b s h)
    clear h
    go_enter Try.func10, Try.ntmps10
    go_wp2_with fail
    (with_reducible refine (awake_any _).mono ?_)
    rintro e w1 ⟨rfl, hb1⟩
    obtain ⟨bF1, cF1, fF1, zF1⟩ := (Blk.new w 23 #[.int .i64 b, .int .i64 s]).next hb1
    try simp at bF1 cF1 fF1 zF1
    have B1 := below_call (below_box (Below.refl w.heap.size w) _) hb1
    go_wp2_with fail
    (with_reducible refine (H1.out _).mono ?_)
    rintro e w2 ⟨rfl, hb2⟩
    obtain ⟨bF2, cF2, fF2, zF2⟩ := (bF1).next hb2
    try simp at bF2 cF2 fF2 zF2
    have B2 := below_call (B1) hb2
    clear cF1 fF1 zF1
    go_wp2_with fail
    (with_reducible refine (H2.out _).mono ?_)
    rintro e w3 ⟨rfl, hb3⟩
    obtain ⟨bF3, cF3, fF3, zF3⟩ := (bF2).next hb3
    try simp at bF3 cF3 fF3 zF3
    have B3 := below_call (B2) hb3
    clear cF2 fF2 zF2
    go_wp2_with fail
    (with_reducible refine (H3.out _).mono ?_)
    rintro e w4 ⟨rfl, hb4⟩
    obtain ⟨bF4, cF4, fF4, zF4⟩ := (bF3).next hb4
    try simp at bF4 cF4 fF4 zF4
    have B4 := below_call (B3) hb4
    clear cF3 fF3 zF3
    go_wp2_with fail
    (with_reducible refine (H4.out _).mono ?_)
    rintro e w5 ⟨rfl, hb5⟩
    obtain ⟨bF5, cF5, fF5, zF5⟩ := (bF4).next hb5
    try simp at bF5 cF5 fF5 zF5
    have B5 := below_call (B4) hb5
    clear cF4 fF4 zF4
    go_wp2_with fail
    (with_reducible refine (num_three _).mono ?_)
    rintro e w' ⟨rfl, rfl⟩
    go_wp2_with fail
    (with_reducible refine (num_three _).mono ?_)
    rintro e w' ⟨rfl, rfl⟩
    go_wp2_with fail
    (with_reducible refine (num_three _).mono ?_)
    rintro e w' ⟨rfl, rfl⟩
    go_wp2_with fail
    go_ret
    exact ⟨ret_bool (by simp), B5⟩

end Go.Proofs.Ythldpmfobhemkaa
