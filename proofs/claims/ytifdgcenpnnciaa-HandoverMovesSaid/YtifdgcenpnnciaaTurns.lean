/- HandoverTurns: with all angles turned by the same angle the output is turned by it. -/
import Derived.Test.YtifdgcenpnnciaaSteps2
namespace Go.Proofs.Ytifdgcenpnnciaa
open Go.RowKit

/-- The output after a tick that is no error. -/
def sB (m x a v : Int) (s : Bool) : Int := if s then stp m x a v else a * 65536 % 4294967296
theorem sB_le (m x a v : Int) (s : Bool) : 0 ≤ sB m x a v s ∧ sB m x a v s < 4294967296 := by
  cases s <;> simp only [sB, stp, if_true, Bool.false_eq_true, if_false] <;> omega

theorem Step_ok (m x a v : Int) (s : Bool) (w : World) (h : 0 ≤ m) (h2 : m ≤ 1073741824) :
    Calls Try.prog 8 #[.int .i64 m, .agg #[.int .i64 x, .bool s], .agg #[.int .i64 a, .int .i64 v]] w fun e w' => e = .returned (.tuple #[.agg #[.int .i64 (sB m x a v s), .bool true], .nilIface]) ∧ Below w.heap.size w w' := by
  cases s
  · exact Step_new m x a v w h h2
  · exact Step_run m x a v w h h2

theorem dst_shift {y y' a k : Int} (h : (y' - y - k * 65536) % 4294967296 = 0) : dst y' (a + k) = dst y a := by
  unfold dst; omega
theorem turn_law (m x a v k : Int) (s : Bool) : (sB m (x + k * 65536) (a + k) v s - sB m x a v s - k * 65536) % 4294967296 = 0 := by
  cases s
  · simp only [sB, Bool.false_eq_true, if_false]; omega
  · simp only [sB, if_true, stp]
    rw [dst_shift (y := x % 4294967296 + max (-1073741824) (min v 1073741824)) (by omega)]
    omega

theorem size_set (w : World) (a : Addr) (u : Value) : (w.setCell a u).heap.size = w.heap.size := by simp [World.setCell]
theorem Blk.new1 (w : World) (a : Addr) (u : Value) (t : TypeId) (cs : Array Value) : Blk ((w.setCell a u).alloc (.cells cs t)) w.heap.size t cs := by
  have := Blk.new (w.setCell a u) t cs
  rwa [size_set] at this

theorem lnear_zero (n : Int) (w : World) (h : -4611686018427387904 ≤ n) (h2 : n ≤ 4611686018427387904) (h0 : n % 4294967296 = 0) :
    Calls Try.prog 18 #[.int .i64 n] w fun e w' => e = .returned (.int .i64 0) ∧ w = w' :=
  (lnear_any n w h h2).mono fun e w' ⟨he, hw⟩ => ⟨by rw [he]; exact ret_int (by omega), hw⟩

set_option maxHeartbeats 2000000 in
theorem turns_any (m x x0 x1 x2 : Int) (s : Bool) (w : World) :
    Calls Try.prog 6 #[.int .i64 m, .agg #[.int .i64 x, .bool s], .agg #[.int .i64 x0, .int .i64 x1, .int .i64 x2]] w fun e w' => e = .returned (.bool true) ∧ Below w.heap.size w w' := by
  have t0 := tspec x0 65536 (by decide)
  have t2 := tspec x2 65536 (by decide)
  have t3 := tspec x 1099511627776 (by decide)
  have k0 : -65536 < x0.tmod 65536 ∧ x0.tmod 65536 < 65536 := by omega
  have k2 : -65536 < x2.tmod 65536 ∧ x2.tmod 65536 < 65536 := by omega
  have k3 : -1099511627776 < x.tmod 1099511627776 ∧ x.tmod 1099511627776 < 1099511627776 := by omega
  clear t0 t2 t3
  have A := sB_le (max 0 (min m 1073741824)) (x.tmod 1099511627776) (x0.tmod 65536) x1 s
  have B := sB_le (max 0 (min m 1073741824)) (x.tmod 1099511627776 + x2.tmod 65536 * 65536) (x0.tmod 65536 + x2.tmod 65536) x1 s
  have T0 := turn_law (max 0 (min m 1073741824)) (x.tmod 1099511627776) (x0.tmod 65536) x1 (x2.tmod 65536) s
  have T := Lib.hid T0
  clear T0
  go_enter Try.func6, Try.ntmps6
  go_wp2_with (first
    | (go_at_call 7; refine (awake_any _).mono ?_; rintro e w1 ⟨rfl, hb1⟩; obtain ⟨p1, cp1, fp1, zp1⟩ := ((Blk.new w _ _).alloc _).next hb1; obtain ⟨q1, cq1, fq1, zq1⟩ := (Blk.new (w.alloc _) _ _).next hb1; simp at q1 cq1 fq1 zq1)
    | (go_at_call 17; refine (clip_any _ _ _ _).mono ?_; rintro e w' ⟨rfl, rfl⟩))
  refine (Step_ok _ _ _ _ _ _ (by omega) (by omega)).mono ?_
  rintro e w2 ⟨rfl, hb2⟩
  obtain ⟨p2, cp2, fp2, zp2⟩ := ((p1.put 0 _).alloc _).next hb2
  obtain ⟨q2, cq2, fq2, zq2⟩ := ((q1.far (p := ⟨w.heap.size, 0, none⟩) (by simp) _).alloc _).next hb2
  obtain ⟨n2, cn2, fn2, zn2⟩ := (Blk.new1 w1 _ _ _ _).next hb2
  clear cp1 fp1 cq1 fq1
  go_wp2_with fail
  refine (Step_ok _ _ _ _ _ _ (by omega) (by omega)).mono ?_
  rintro e w3 ⟨rfl, hb3⟩
  obtain ⟨m3, cm3, fm3, zm3⟩ := (Blk.new w2 _ _).next hb3
  clear cp2 fp2 cq2 fq2 cn2 fn2
  go_wp2_with (go_at_call 18; refine (lnear_zero _ _ (by omega) (by omega) T.out).mono ?_; rintro e w' ⟨rfl, rfl⟩)
  go_ret
  have B1 := below_call (below_box (below_box (Below.refl w.heap.size w) _) _) hb1
  have B2 := below_call (below_box (B1.setCell (p := ⟨w.heap.size, 0, none⟩) (Nat.le_refl _) _) _) hb2
  exact ⟨rfl, below_box (below_call (below_box B2 _) hb3) _⟩
end Go.Proofs.Ytifdgcenpnnciaa
