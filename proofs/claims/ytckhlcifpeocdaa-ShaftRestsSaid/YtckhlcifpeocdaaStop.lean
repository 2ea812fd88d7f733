/- Stop, the program's and the reference's; the reference's Fastest. -/
import Derived.Test.YtckhlcifpeocdaaBound
namespace Go.Proofs.Ytckhlcifpeocdaa
open Go.RowKit

/-- What a tick without torque takes off. -/
def dec (G R : Int) : Int := (R * G).tdiv 65536
def stopN (v k : Int) : Int := (max (clS v) (-clS v) + k - 1).tdiv k
theorem dec_le {G D R : Int} (h : okC G D R) : 0 ≤ R * G ∧ R * G ≤ 100000000000000 ∧ 0 ≤ dec G R ∧ dec G R ≤ 268435456 := by
  obtain ⟨g1, g2, g3, g4, g5, g6⟩ := h
  have hm := mul_le (a := R) (A := 16777216) (G := G) (B := 1048576) (by omega) (by omega) g1 g2 (by decide)
  have h0 : 0 ≤ R * G := Int.mul_nonneg (by omega) g1
  have ht := tspec (R * G) 65536 (by decide)
  unfold dec
  omega
theorem stop_le (v : Int) {k : Int} (h : 0 < k) (h2 : k ≤ 268435456) : 0 ≤ stopN v k ∧ stopN v k ≤ 1342177280 := by
  have hc := clS_le v
  unfold stopN
  have h0 : 0 ≤ max (clS v) (-clS v) + k - 1 := by omega
  rw [Int.tdiv_eq_ediv_of_nonneg h0]
  exact ⟨Int.ediv_nonneg h0 (by omega), Int.le_trans (Int.ediv_le_self _ h0) (by omega)⟩

set_option maxHeartbeats 1000000 in
theorem Stop_no {G D R : Int} (p v : Int) (h : ¬ okC G D R) (w : World) :
    Calls Try.prog 27 #[.agg #[.int .i64 G, .int .i64 D, .int .i64 R], .agg #[.int .i64 p, .int .i64 v]] w fun e w' => e = .returned (.tuple #[.int .i64 0, .iface 54 (.int .i64 3)]) ∧ Below w.heap.size w w' := by
  go_enter Try.func27, Try.ntmps27
  go_wp2_with (go_at_call 14; refine (Check_no _ _ _ h _).mono ?_; rintro e w1 ⟨rfl, hb⟩)
  go_ret2
  exact ⟨rfl, below_call (below_box (below_box (Below.refl _ _) _) _) hb⟩
set_option maxHeartbeats 2000000 in
theorem Stop_null {G D R : Int} (p v : Int) (h : okC G D R) (hk : dec G R = 0) (w : World) :
    Calls Try.prog 27 #[.agg #[.int .i64 G, .int .i64 D, .int .i64 R], .agg #[.int .i64 p, .int .i64 v]] w fun e w' => e = .returned (.tuple #[.int .i64 0, .iface 54 (.int .i64 22)]) ∧ Below w.heap.size w w' := by
  have hi := dec_le h
  have HC := Lib.hid (fun W => Check_yes G D R h W)
  obtain ⟨P, hP⟩ : ∃ P, R * G = P := ⟨_, rfl⟩
  have ht : P.tdiv 65536 = 0 := by rw [← hP]; exact hk
  have ht2 : P / 65536 = 0 := by rw [hP] at hi; rw [← ht, Int.tdiv_eq_ediv_of_nonneg (by omega)]
  rw [hP] at hi
  clear hk h
  have x2 : IntKind.i64.wrap P = P := IntWalk.i64_in _ (by omega)
  go_enter Try.func27, Try.ntmps27
  go_wp2_with fail
  (with_reducible refine (HC.out _).mono ?_)
  rintro e w1 ⟨rfl, hb⟩
  obtain ⟨c1, cc1, fc1, zc1⟩ := (((Blk.new w 23 #[.int .i64 G, .int .i64 D, .int .i64 R]).alloc _)).next hb
  obtain ⟨y1, cy1, fy1, zy1⟩ := ((Blk.new (w.alloc (.cells #[.int .i64 G, .int .i64 D, .int .i64 R] 23)) 32 #[.int .i64 p, .int .i64 v])).next hb
  simp at y1 cy1 fy1 zy1
  go_wp2_with fail
  go_ret2
  exact ⟨rfl, (below_call (below_box (below_box (Below.refl _ _) _) _) hb)⟩
set_option maxHeartbeats 2000000 in
theorem Stop_yes {G D R : Int} (p v : Int) (h : okC G D R) (hk : dec G R ≠ 0) (w : World) :
    Calls Try.prog 27 #[.agg #[.int .i64 G, .int .i64 D, .int .i64 R], .agg #[.int .i64 p, .int .i64 v]] w fun e w' => e = .returned (.tuple #[.int .i64 (stopN v (dec G R)), .nilIface]) ∧ Below w.heap.size w w' := by
  have hi := dec_le h
  have hs := stop_le v (k := dec G R) (by omega) hi.2.2.2
  have hc := clS_le v
  have HC := Lib.hid (fun W => Check_yes G D R h W)
  obtain ⟨P, hP⟩ : ∃ P, R * G = P := ⟨_, rfl⟩
  have ht : P.tdiv 65536 = dec G R := by rw [← hP]; rfl
  have ht2 : P / 65536 = dec G R := by rw [hP] at hi; rw [← ht, Int.tdiv_eq_ediv_of_nonneg (by omega)]
  rw [hP] at hi
  clear h
  generalize dec G R = k at *
  have x2 : IntKind.i64.wrap P = P := IntWalk.i64_in _ (by omega)
  have x3 : IntKind.i64.wrap k = k := IntWalk.i64_in _ (by omega)
  have hf : (max (clS v) (-clS v) + k - 1).tdiv k = stopN v k := rfl
  have x4 : IntKind.i64.wrap (stopN v k) = stopN v k := IntWalk.i64_in _ (by omega)
  go_enter Try.func27, Try.ntmps27
  go_wp2_with fail
  (with_reducible refine (HC.out _).mono ?_)
  rintro e w1 ⟨rfl, hb⟩
  obtain ⟨c1, cc1, fc1, zc1⟩ := (((Blk.new w 23 #[.int .i64 G, .int .i64 D, .int .i64 R]).alloc _)).next hb
  obtain ⟨y1, cy1, fy1, zy1⟩ := ((Blk.new (w.alloc (.cells #[.int .i64 G, .int .i64 D, .int .i64 R] 23)) 32 #[.int .i64 p, .int .i64 v])).next hb
  simp at y1 cy1 fy1 zy1
  go_wp2_with fail
  (with_reducible refine (magnitude_any _ _ _).mono ?_)
  rintro e w2 ⟨rfl, hb2⟩
  go_wp2_with fail
  go_ret2
  exact ⟨rfl, below_call (below_call (below_box (below_box (Below.refl _ _) _) _) hb) hb2⟩
/-- The reference's. -/
def rstop (G R v : Int) : Int × Int := if dec G R = 0 then (0, 22) else (stopN v (dec G R), 0)
set_option maxHeartbeats 2000000 in
theorem rStop_null {G D R : Int} (p v : Int) (h : okC G D R) (hk : dec G R = 0) (w : World) :
    Calls Try.prog 30 #[.agg #[.int .i64 G, .int .i64 D, .int .i64 R], .agg #[.int .i64 p, .int .i64 v]] w fun e w' => e = .returned (.tuple #[.int .i64 0, .int .i64 22]) ∧ Below w.heap.size w w' := by
  have hi := dec_le h
  obtain ⟨P, hP⟩ : ∃ P, R * G = P := ⟨_, rfl⟩
  have ht : P.tdiv 65536 = 0 := by rw [← hP]; exact hk
  have ht2 : P / 65536 = 0 := by rw [hP] at hi; rw [← ht, Int.tdiv_eq_ediv_of_nonneg (by omega)]
  rw [hP] at hi
  clear hk h
  have x2 : IntKind.i64.wrap P = P := IntWalk.i64_in _ (by omega)
  go_enter Try.func30, Try.ntmps30
  go_wp2_with fail
  go_ret2
  exact ⟨rfl, (below_box (below_box (Below.refl _ _) _) _)⟩
set_option maxHeartbeats 2000000 in
theorem rStop_yes {G D R : Int} (p v : Int) (h : okC G D R) (hk : dec G R ≠ 0) (w : World) :
    Calls Try.prog 30 #[.agg #[.int .i64 G, .int .i64 D, .int .i64 R], .agg #[.int .i64 p, .int .i64 v]] w fun e w' => e = .returned (.tuple #[.int .i64 (stopN v (dec G R)), .int .i64 0]) ∧ Below w.heap.size w w' := by
  have hi := dec_le h
  have hs := stop_le v (k := dec G R) (by omega) hi.2.2.2
  have hc := clS_le v
  obtain ⟨P, hP⟩ : ∃ P, R * G = P := ⟨_, rfl⟩
  have ht : P.tdiv 65536 = dec G R := by rw [← hP]; rfl
  have ht2 : P / 65536 = dec G R := by rw [hP] at hi; rw [← ht, Int.tdiv_eq_ediv_of_nonneg (by omega)]
  rw [hP] at hi
  clear h
  generalize dec G R = k at *
  have x2 : IntKind.i64.wrap P = P := IntWalk.i64_in _ (by omega)
  have x3 : IntKind.i64.wrap k = k := IntWalk.i64_in _ (by omega)
  have hf : (max (clS v) (-clS v) + k - 1).tdiv k = stopN v k := rfl
  have x4 : IntKind.i64.wrap (stopN v k) = stopN v k := IntWalk.i64_in _ (by omega)
  go_enter Try.func30, Try.ntmps30
  go_wp2_with fail
  (with_reducible refine (Speed_any _ _ _).mono ?_)
  rintro e w2 ⟨rfl, hb2⟩
  go_wp2_with fail
  go_ret2
  exact ⟨rfl, below_call (below_box (below_box (Below.refl _ _) _) _) hb2⟩
set_option maxHeartbeats 2000000 in
theorem rFastest_yes {G D R : Int} (p v M k : Int) (h : okC G D R) (hs : okS M k) (w : World) :
    Calls Try.prog 29 #[.agg #[.int .i64 G, .int .i64 D, .int .i64 R], .agg #[.int .i64 p, .int .i64 v], .agg #[.int .i64 M, .int .i64 k]] w fun e w' => e = .returned (.int .i64 (fastN G R v M k)) ∧ Below w.heap.size w w' := by
  obtain ⟨s1, s2, s3, s4⟩ := hs
  have hi := inc_le h s1 s2
  have hk := kinc_le hi.2.2.1 hi.2.2.2 s3 s4
  have hc := clS_le v
  obtain ⟨g1, g2, g3, g4, g5, g6⟩ := h
  clear g3 g4
  obtain ⟨P, hP⟩ : ∃ P, (M + R) * G = P := ⟨_, rfl⟩
  have ht : P.tdiv 65536 = inc G R M := by rw [← hP]; rfl
  have ht2 : P / 65536 = inc G R M := by rw [← ht, Int.tdiv_eq_ediv_of_nonneg (by omega)]
  rw [hP] at hi
  have hf : min (max (clS v) (-clS v) + k * inc G R M) 1073741824 = fastN G R v M k := rfl
  have HF := Lib.hid hf
  clear hf
  generalize inc G R M = a at *
  have x1 : IntKind.i64.wrap (M + R) = M + R := IntWalk.i64_in _ (by omega)
  have x2 : IntKind.i64.wrap P = P := IntWalk.i64_in _ (by omega)
  have x3 : IntKind.i64.wrap a = a := IntWalk.i64_in _ (by omega)
  have x4 : IntKind.i64.wrap (k * a) = k * a := IntWalk.i64_in _ (by omega)
  have x5 : IntKind.i64.wrap (max (clS v) (-clS v) + k * a) = max (clS v) (-clS v) + k * a := IntWalk.i64_in _ (by omega)
  have x6 : IntKind.i64.wrap (-clS v) = -clS v := IntWalk.i64_in _ (by omega)
  go_enter Try.func29, Try.ntmps29
  go_wp2_with fail
  (with_reducible refine (Speed_any _ _ _).mono ?_)
  rintro e w1 ⟨rfl, hb⟩
  obtain ⟨c1, cc1, fc1, zc1⟩ := (((Blk.new w 23 #[.int .i64 G, .int .i64 D, .int .i64 R]).alloc _).alloc _).next hb
  obtain ⟨y1, cy1, fy1, zy1⟩ := (Blk.new ((w.alloc (.cells #[.int .i64 G, .int .i64 D, .int .i64 R] 23)).alloc (.cells #[.int .i64 p, .int .i64 v] 32)) 51 #[.int .i64 M, .int .i64 k]).next hb
  simp at y1 cy1 fy1 zy1
  go_wp2_with fail
  go_ret
  exact ⟨by rw [HF.out]; rfl, below_call (below_box (below_box (below_box (Below.refl _ _) _) _) _) hb⟩
end Go.Proofs.Ytckhlcifpeocdaa
