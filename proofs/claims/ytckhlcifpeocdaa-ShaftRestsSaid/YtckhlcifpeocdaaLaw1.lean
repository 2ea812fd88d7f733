/- Angle and its reference; the law's example and awake. -/
import Derived.Test.YtckhlcifpeocdaaSteps
namespace Go.Proofs.Ytckhlcifpeocdaa
open Go.RowKit

/-- The electrical angle of a position. -/
def angP (p : Int) : Int := wrapP p / 65536 % 65536
theorem angP_le (p : Int) : 0 ≤ angP p ∧ angP p < 65536 := by unfold angP; omega

set_option maxHeartbeats 400000 in
theorem Angle_any (p v : Int) (w : World) : Calls Try.prog 22 #[.agg #[.int .i64 p, .int .i64 v]] w fun e w' => e = .returned (.int .i64 (angP p)) ∧ Below w.heap.size w w' := by
  have e : bits .and .i64 (wrapP p / 65536) 65535 = wrapP p / 65536 % 65536 := bits_mask 16 (by decide) _
  go_enter Try.func22, Try.ntmps22
  go_wp2_with (go_at_call 21; refine (Wrap_any _ _).mono ?_; rintro e w' ⟨rfl, rfl⟩)
  go_ret
  exact ⟨ret_int rfl, below_box (Below.refl _ _) _⟩
set_option maxHeartbeats 400000 in
theorem rAngle_any (p v : Int) (hp : -9223372036854775808 ≤ p) (hp2 : p ≤ 9223372036854775807) (w : World) : Calls Try.prog 24 #[.agg #[.int .i64 p, .int .i64 v]] w fun e w' => e = .returned (.int .i64 (angP p)) ∧ Below w.heap.size w w' := by
  have hw : -72057594037927936 ≤ wrapP p ∧ wrapP p < 72057594037927936 := by unfold wrapP; omega
  have ea : angP p = wrapP p / 65536 % 65536 := rfl
  have EA := Lib.hid ea
  clear ea
  have hr := rWrap_any p hp hp2
  generalize wrapP p = q at *
  have HR := Lib.hid hr
  clear hr
  have t1 := tspec q 65536 (by decide)
  have t2 := tspec (q.tdiv 65536 - 1) 65536 (by decide)
  have t3 := tspec (q.tdiv 65536) 65536 (by decide)
  have t4 := tspec (q / 65536) 65536 (by decide)
  have T := Lib.hid (And.intro t1 (And.intro t2 (And.intro t3 t4)))
  have b1 : -72057594037927936 ≤ q.tdiv 65536 ∧ q.tdiv 65536 ≤ 72057594037927936 := by omega
  have b2 : -65536 < (q.tdiv 65536 - 1).tmod 65536 ∧ (q.tdiv 65536 - 1).tmod 65536 < 65536 := by omega
  have b3 : -65536 < (q.tdiv 65536).tmod 65536 ∧ (q.tdiv 65536).tmod 65536 < 65536 := by omega
  clear t1 t2 t3 t4
  go_enter Try.func24, Try.ntmps24
  go_wp2_with (go_at_call 23; refine (HR.out _).mono ?_; rintro e w' ⟨rfl, rfl⟩)
  all_goals
    go_ret
    refine ⟨ret_int ?_, below_box (Below.refl _ _) _⟩
    rw [EA.out]
    have T := T.out
    first
      | (have hx : ¬ q.tmod 65536 = 0 := by simpa using ‹(q.tmod 65536 != 0) = true›
         omega)
      | (have hx : q.tmod 65536 = 0 := by simpa using ‹(q.tmod 65536 != 0) = false›
         omega)
      | omega
set_option maxHeartbeats 400000 in
theorem example_any (w : World) : Calls Try.prog 31 #[] w fun e w' => e = .returned (.agg #[.int .i64 65536, .int .i64 4, .int .i64 10]) ∧ Below w.heap.size w w' := by
  go_enter Try.func31, Try.ntmps31
  go_wp2
  refine bodyPost_ret (v := .agg #[.int .i64 65536, .int .i64 4, .int .i64 10]) ?_ rfl ⟨rfl, ?_⟩
  · simp [results, Try.results31, go_sem]
  · repeat' (first | exact Below.refl _ _ | refine below_box ?_ _ | refine below_set ?_ (Nat.le_refl _) _)
set_option maxHeartbeats 1000000 in
theorem awake_any (w : World) : Calls Try.prog 12 #[] w fun e w' => e = .returned (.bool true) ∧ Below w.heap.size w w' := by
  have e1 : nV 65536 4 10 100 30 0 = 114 := by decide
  have e2 : nP 65536 4 10 1000 100 30 0 = 1114 := by decide
  have c := fun W => Step_yes (G := 65536) (D := 4) (R := 10) 1000 100 30 0 (by unfold okC; decide) W
  rw [e1, e2] at c
  have C := Lib.hid c
  clear e1 e2 c
  go_enter Try.func12, Try.ntmps12
  go_wp2_with (first
    | (go_at_call 31; refine (example_any _).mono ?_; rintro e w1 ⟨rfl, hb1⟩)
    | (go_at_call 16; refine (C.out _).mono ?_; rintro e w2 ⟨rfl, hb2⟩))
  go_ret
  exact ⟨rfl, below_box (below_call hb1 hb2) _⟩

theorem num_nil (w : World) : Calls Try.prog 13 #[.nilIface] w fun e w' => e = .returned (.int .i64 0) ∧ w = w' := num_any 0 w
theorem num_three (w : World) : Calls Try.prog 13 #[.iface 54 (.int .i64 3)] w fun e w' => e = .returned (.int .i64 3) ∧ w = w' := num_any 3 w

set_option maxHeartbeats 2000000 in
theorem checks_any (G D R : Int) (w : World) : Calls Try.prog 3 #[.agg #[.int .i64 G, .int .i64 D, .int .i64 R]] w fun e w' => e = .returned (.bool true) ∧ Below w.heap.size w w' := by
  have b0 := Blk.new w 23 #[.int .i64 G, .int .i64 D, .int .i64 R]
  have B0 := below_box (Below.refl w.heap.size w) (.cells #[.int .i64 G, .int .i64 D, .int .i64 R] 23)
  by_cases h : okC G D R
  · go_enter Try.func3, Try.ntmps3
    go_wp2_with fail
    go_region_held3 (fun w' => ∀ i, w'.cell? ⟨w.heap.size, i, none⟩ = (#[.int .i64 G, .int .i64 D, .int .i64 R] : Array Value)[i]?)
      (first | exact b0.cell | exact b1.cell | exact b2.cell | exact b3.cell)
      (first
        | (go_at_call 12; refine (awake_any _).mono ?_; rintro e w1 ⟨rfl, hb1⟩; have b1 := (b0.next hb1).1)
        | (go_at_call 14; refine (Check_yes _ _ _ h _).mono ?_; rintro e w2 ⟨rfl, hb2⟩; have b2 := (b1.next hb2).1)
        | (go_at_call 13; refine (num_nil _).mono ?_; rintro e w' ⟨rfl, rfl⟩)
        | (go_at_call 15; refine (rCheck_yes _ _ _ h _).mono ?_; rintro e w3 ⟨rfl, hb3⟩; have b3 := (b2.next hb3).1))
    go_wp2_with fail
    go_ret
    exact ⟨rfl, below_call (below_call (below_call B0.drew hb1) hb2) hb3⟩
  · go_enter Try.func3, Try.ntmps3
    go_wp2_with fail
    go_region_held3 (fun w' => ∀ i, w'.cell? ⟨w.heap.size, i, none⟩ = (#[.int .i64 G, .int .i64 D, .int .i64 R] : Array Value)[i]?)
      (first | exact b0.cell | exact b1.cell | exact b2.cell | exact b3.cell)
      (first
        | (go_at_call 12; refine (awake_any _).mono ?_; rintro e w1 ⟨rfl, hb1⟩; have b1 := (b0.next hb1).1)
        | (go_at_call 14; refine (Check_no _ _ _ h _).mono ?_; rintro e w2 ⟨rfl, hb2⟩; have b2 := (b1.next hb2).1)
        | (go_at_call 13; refine (num_three _).mono ?_; rintro e w' ⟨rfl, rfl⟩)
        | (go_at_call 15; refine (rCheck_no _ _ _ h _).mono ?_; rintro e w3 ⟨rfl, hb3⟩; have b3 := (b2.next hb3).1))
    go_wp2_with fail
    go_ret
    exact ⟨rfl, below_call (below_call (below_call B0.drew hb1) hb2) hb3⟩

set_option maxHeartbeats 2000000 in
theorem angles_any (p : Int) (hp : -9223372036854775808 ≤ p) (hp2 : p ≤ 9223372036854775807) (w : World) : Calls Try.prog 7 #[.int .i64 p] w fun e w' => e = .returned (.bool true) ∧ Below w.heap.size w w' := by
  have hw : -72057594037927936 ≤ wrapP p ∧ wrapP p < 72057594037927936 := by unfold wrapP; omega
  have ea : angP (wrapP p) = angP p := by unfold angP wrapP; omega
  have c := fun W => Angle_any (wrapP p) 0 W
  rw [ea] at c
  have C := Lib.hid c
  clear c ea
  go_enter Try.func7, Try.ntmps7
  go_wp2_with (first
    | (go_at_call 12; refine (awake_any _).mono ?_; rintro e w1 ⟨rfl, hb1⟩)
    | (go_at_call 21; refine (Wrap_any _ _).mono ?_; rintro e w' ⟨rfl, rfl⟩)
    | (go_at_call 23; refine (rWrap_any _ hp hp2 _).mono ?_; rintro e w' ⟨rfl, rfl⟩)
    | (go_at_call 22; (with_reducible refine (Angle_any p _ _).mono ?_); rintro e w2 ⟨rfl, hb2⟩)
    | (go_at_call 24; refine (rAngle_any _ _ hp hp2 _).mono ?_; rintro e w3 ⟨rfl, hb3⟩)
    | (go_at_call 22; (with_reducible refine (C.out _).mono ?_); rintro e w4 ⟨rfl, hb4⟩))
  go_ret
  exact ⟨rfl, below_call (below_call (below_call hb1 hb2) hb3) hb4⟩

set_option maxHeartbeats 4000000 in
theorem steps_any (G D R p v t l : Int) (hp : -9223372036854775808 ≤ p) (hp2 : p ≤ 9223372036854775807) (w : World) :
    Calls Try.prog 4 #[.agg #[.int .i64 G, .int .i64 D, .int .i64 R], .agg #[.int .i64 p, .int .i64 v], .agg #[.int .i64 t, .int .i64 l]] w fun e w' => e = .returned (.bool true) ∧ Below w.heap.size w w' := by
  by_cases h : okC G D R
  · go_enter Try.func4, Try.ntmps4
    go_wp2_with (first
      | (go_at_call 12; refine (awake_any _).mono ?_; rintro e w1 ⟨rfl, hb1⟩; obtain ⟨b1, cb1, fb1, zb1⟩ := (((Blk.new w 23 #[.int .i64 G, .int .i64 D, .int .i64 R]).alloc _).alloc _).next hb1; obtain ⟨s1, cs1, fs1, zs1⟩ := ((Blk.new (w.alloc _) 32 #[.int .i64 p, .int .i64 v]).alloc _).next hb1; obtain ⟨i1, ci1, fi1, zi1⟩ := (Blk.new ((w.alloc _).alloc _) 34 #[.int .i64 t, .int .i64 l]).next hb1; simp at s1 cs1 fs1 zs1 i1 ci1 fi1 zi1)
      | (go_at_call 16; refine (Step_yes _ _ _ _ h _).mono ?_; rintro e w2 ⟨rfl, hb2⟩; obtain ⟨b2, cb2, fb2, zb2⟩ := b1.next hb2; obtain ⟨s2, cs2, fs2, zs2⟩ := s1.next hb2; obtain ⟨i2, ci2, fi2, zi2⟩ := i1.next hb2)
      | (go_at_call 15; refine (rCheck_yes _ _ _ h _).mono ?_; rintro e w3 ⟨rfl, hb3⟩; obtain ⟨b3, cb3, fb3, zb3⟩ := (b2.alloc _).next hb3; obtain ⟨s3, cs3, fs3, zs3⟩ := (s2.alloc _).next hb3; obtain ⟨i3, ci3, fi3, zi3⟩ := (i2.alloc _).next hb3; obtain ⟨n3, cn3, fn3, zn3⟩ := (Blk.new w2 _ _).next hb3))
    clear cb1 fb1 zb1 cs1 fs1 zs1 ci1 fi1 zi1 cb2 fb2 zb2 cs2 fs2 zs2 ci2 fi2 zi2
    go_region_held3 (fun w' => (∀ i, w'.cell? ⟨w.heap.size, i, none⟩ = (#[.int .i64 G, .int .i64 D, .int .i64 R] : Array Value)[i]?) ∧ (∀ i, w'.cell? ⟨w.heap.size + 1, i, none⟩ = (#[.int .i64 p, .int .i64 v] : Array Value)[i]?) ∧ (∀ i, w'.cell? ⟨w.heap.size + 1 + 1, i, none⟩ = (#[.int .i64 t, .int .i64 l] : Array Value)[i]?) ∧ (∀ i, w'.cell? ⟨w2.heap.size, i, none⟩ = (#[.int .i64 (nP G D R p v t l), .int .i64 (nV G D R v t l)] : Array Value)[i]?))
      (first | exact ⟨b3.cell, s3.cell, i3.cell, n3.cell⟩ | exact ⟨b4.cell, s4.cell, i4.cell, n4.cell⟩)
      (first
        | (go_at_call 17; refine (rStep_yes _ _ _ _ h hp hp2 _).mono ?_; rintro e w4 ⟨rfl, hb4⟩; have b4 := (b3.next hb4).1; have s4 := (s3.next hb4).1; have i4 := (i3.next hb4).1; have n4 := (n3.next hb4).1))
    go_wp2_with fail
    go_ret
    have B1 := below_call (below_box (below_box (below_box (Below.refl w.heap.size w) _) _) _) hb1
    exact ⟨rfl, below_call (below_call (below_box (below_call B1 hb2) _) hb3).drew hb4⟩
  · go_enter Try.func4, Try.ntmps4
    go_wp2_with (first
      | (go_at_call 12; refine (awake_any _).mono ?_; rintro e w1 ⟨rfl, hb1⟩; obtain ⟨b1, cb1, fb1, zb1⟩ := (((Blk.new w 23 #[.int .i64 G, .int .i64 D, .int .i64 R]).alloc _).alloc _).next hb1; obtain ⟨s1, cs1, fs1, zs1⟩ := ((Blk.new (w.alloc _) 32 #[.int .i64 p, .int .i64 v]).alloc _).next hb1; obtain ⟨i1, ci1, fi1, zi1⟩ := (Blk.new ((w.alloc _).alloc _) 34 #[.int .i64 t, .int .i64 l]).next hb1; simp at s1 cs1 fs1 zs1 i1 ci1 fi1 zi1)
      | (go_at_call 16; refine (Step_no _ _ _ _ h _).mono ?_; rintro e w2 ⟨rfl, hb2⟩; obtain ⟨b2, cb2, fb2, zb2⟩ := b1.next hb2; obtain ⟨s2, cs2, fs2, zs2⟩ := s1.next hb2; obtain ⟨i2, ci2, fi2, zi2⟩ := i1.next hb2)
      | (go_at_call 15; refine (rCheck_no _ _ _ h _).mono ?_; rintro e w3 ⟨rfl, hb3⟩; obtain ⟨n3, cn3, fn3, zn3⟩ := (Blk.new w2 _ _).next hb3)
      | (go_at_call 13; refine (num_three _).mono ?_; rintro e w' ⟨rfl, rfl⟩))
    go_ret
    have B1 := below_call (below_box (below_box (below_box (Below.refl w.heap.size w) _) _) _) hb1
    exact ⟨rfl, below_call (below_box (below_call B1 hb2) _) hb3⟩
end Go.Proofs.Ytckhlcifpeocdaa
