/- Fastest and Stop, the program's and the reference's. -/
import Derived.Test.YtckhlcifpeocdaaLaw1
import Derived.Test.YtckhlcifpeocdaaPlain2
namespace Go.Proofs.Ytckhlcifpeocdaa
open Go.RowKit

/-- What a tick adds at most. -/
def inc (G R M : Int) : Int := ((M + R) * G).tdiv 65536
def fastN (G R v M k : Int) : Int := min (max (clS v) (-clS v) + k * inc G R M) 1073741824
def okS (M k : Int) : Prop := 0 ≤ M ∧ M ≤ 33554432 ∧ 0 ≤ k ∧ k ≤ 1048576
theorem inc_le {G D R M : Int} (h : okC G D R) (h1 : 0 ≤ M) (h2 : M ≤ 33554432) : 0 ≤ (M + R) * G ∧ (M + R) * G ≤ 100000000000000 ∧ 0 ≤ inc G R M ∧ inc G R M ≤ 1000000000 := by
  obtain ⟨g1, g2, g3, g4, g5, g6⟩ := h
  have hm := mul_le (a := M + R) (A := 50331648) (G := G) (B := 1048576) (by omega) (by omega) g1 g2 (by decide)
  have h0 : 0 ≤ (M + R) * G := Int.mul_nonneg (by omega) g1
  have ht := tspec ((M + R) * G) 65536 (by decide)
  unfold inc
  omega
theorem kinc_le {a k : Int} (h1 : 0 ≤ a) (h2 : a ≤ 1000000000) (h3 : 0 ≤ k) (h4 : k ≤ 1048576) : 0 ≤ k * a ∧ k * a ≤ 1048576000000000 := by
  have e1 : k * a ≤ k * 1000000000 := Int.mul_le_mul_of_nonneg_left h2 h3
  exact ⟨Int.mul_nonneg h3 h1, by omega⟩

set_option maxHeartbeats 1000000 in
theorem Fastest_no {G D R : Int} (p v M k : Int) (h : ¬ okC G D R) (w : World) :
    Calls Try.prog 26 #[.agg #[.int .i64 G, .int .i64 D, .int .i64 R], .agg #[.int .i64 p, .int .i64 v], .agg #[.int .i64 M, .int .i64 k]] w fun e w' => e = .returned (.tuple #[.int .i64 0, .iface 54 (.int .i64 3)]) ∧ Below w.heap.size w w' := by
  go_enter Try.func26, Try.ntmps26
  go_wp2_with (go_at_call 14; refine (Check_no _ _ _ h _).mono ?_; rintro e w1 ⟨rfl, hb⟩)
  go_ret2
  exact ⟨rfl, below_call (below_box (below_box (below_box (Below.refl _ _) _) _) _) hb⟩
set_option maxHeartbeats 1000000 in
theorem Fastest_range {G D R : Int} (p v M k : Int) (h : okC G D R) (hs : ¬ okS M k) (w : World) :
    Calls Try.prog 26 #[.agg #[.int .i64 G, .int .i64 D, .int .i64 R], .agg #[.int .i64 p, .int .i64 v], .agg #[.int .i64 M, .int .i64 k]] w fun e w' => e = .returned (.tuple #[.int .i64 0, .iface 54 (.int .i64 3)]) ∧ Below w.heap.size w w' := by
  have two : (M < 0 ∨ 33554432 < M) ∨ ((0 ≤ M ∧ M ≤ 33554432) ∧ (k < 0 ∨ 1048576 < k)) := by unfold okS at hs; omega
  clear hs
  rcases two with h1 | ⟨⟨h1, h2⟩, h3⟩
  all_goals
    go_enter Try.func26, Try.ntmps26
    go_wp2_with (first
      | (go_at_call 14; refine (Check_yes _ _ _ h _).mono ?_; rintro e w1 ⟨rfl, hb⟩; obtain ⟨x1, cx1, fx1, zx1⟩ := (Blk.new ((w.alloc (.cells #[.int .i64 G, .int .i64 D, .int .i64 R] 23)).alloc (.cells #[.int .i64 p, .int .i64 v] 32)) 51 #[.int .i64 M, .int .i64 k]).next hb; simp at x1 cx1 fx1 zx1)
      | (go_at_call 32; (with_reducible refine (within_no M _ _ _ (by omega)).mono ?_); rintro e w' ⟨rfl, rfl⟩)
      | (go_at_call 32; (with_reducible refine (within_yes M _ _ _ (by omega) (by omega)).mono ?_); rintro e w' ⟨rfl, rfl⟩)
      | (go_at_call 32; (with_reducible refine (within_no k _ _ _ (by omega)).mono ?_); rintro e w' ⟨rfl, rfl⟩))
    go_ret2
    exact ⟨rfl, below_call (below_box (below_box (below_box (Below.refl _ _) _) _) _) hb⟩
set_option maxHeartbeats 2000000 in
theorem Fastest_yes {G D R : Int} (p v M k : Int) (h : okC G D R) (hs : okS M k) (w : World) :
    Calls Try.prog 26 #[.agg #[.int .i64 G, .int .i64 D, .int .i64 R], .agg #[.int .i64 p, .int .i64 v], .agg #[.int .i64 M, .int .i64 k]] w fun e w' => e = .returned (.tuple #[.int .i64 (fastN G R v M k), .nilIface]) ∧ Below w.heap.size w w' := by
  obtain ⟨s1, s2, s3, s4⟩ := hs
  have hi := inc_le h s1 s2
  have hk := kinc_le hi.2.2.1 hi.2.2.2 s3 s4
  have hc := clS_le v
  have HC := Lib.hid (fun W => Check_yes G D R h W)
  obtain ⟨g1, g2, g3, g4, g5, g6⟩ := h
  clear g3 g4
  obtain ⟨P, hP⟩ : ∃ P, (M + R) * G = P := ⟨_, rfl⟩
  have ht : P.tdiv 65536 = inc G R M := by rw [← hP]; rfl
  have ht2 : P / 65536 = inc G R M := by rw [← ht, Int.tdiv_eq_ediv_of_nonneg (by omega)]
  rw [hP] at hi
  have hf : min (max (clS v) (-clS v) + k * inc G R M) 1073741824 = fastN G R v M k := rfl
  have HF := Lib.hid hf
  clear hf
  generalize inc G R M = a at *
  have x1 : IntKind.i64.wrap (M + R) = M + R := IntWalk.i64_in _ (by omega)
  have x2 : IntKind.i64.wrap P = P := IntWalk.i64_in _ (by omega)
  have x3 : IntKind.i64.wrap a = a := IntWalk.i64_in _ (by omega)
  have x4 : IntKind.i64.wrap (k * a) = k * a := IntWalk.i64_in _ (by omega)
  have x5 : IntKind.i64.wrap (max (clS v) (-clS v) + k * a) = max (clS v) (-clS v) + k * a := IntWalk.i64_in _ (by omega)
  go_enter Try.func26, Try.ntmps26
  go_wp2_with (first
      | (go_at_call 14; (with_reducible refine (HC.out _).mono ?_); rintro e w1 ⟨rfl, hb⟩; obtain ⟨c1, cc1, fc1, zc1⟩ := (((Blk.new w 23 #[.int .i64 G, .int .i64 D, .int .i64 R]).alloc _).alloc _).next hb; obtain ⟨y1, cy1, fy1, zy1⟩ := ((Blk.new (w.alloc (.cells #[.int .i64 G, .int .i64 D, .int .i64 R] 23)) 32 #[.int .i64 p, .int .i64 v]).alloc _).next hb; obtain ⟨x1, cx1, fx1, zx1⟩ := (Blk.new ((w.alloc (.cells #[.int .i64 G, .int .i64 D, .int .i64 R] 23)).alloc (.cells #[.int .i64 p, .int .i64 v] 32)) 51 #[.int .i64 M, .int .i64 k]).next hb; simp at y1 cy1 fy1 zy1 x1 cx1 fx1 zx1)
      | (go_at_call 32; (with_reducible refine (within_yes M _ _ _ (by omega) (by omega)).mono ?_); rintro e w' ⟨rfl, rfl⟩)
      | (go_at_call 32; (with_reducible refine (within_yes k _ _ _ (by omega) (by omega)).mono ?_); rintro e w' ⟨rfl, rfl⟩))
  go_region_held3 (fun w' => (∀ i, w'.cell? ⟨w.heap.size, i, none⟩ = (#[.int .i64 G, .int .i64 D, .int .i64 R] : Array Value)[i]?) ∧ (∀ i, w'.cell? ⟨w.heap.size + 1, i, none⟩ = (#[.int .i64 p, .int .i64 v] : Array Value)[i]?) ∧ (∀ i, w'.cell? ⟨w.heap.size + 1 + 1, i, none⟩ = (#[.int .i64 M, .int .i64 k] : Array Value)[i]?))
    (first | exact ⟨c1.cell, y1.cell, x1.cell⟩ | exact ⟨c2.cell, y2.cell, x2.cell⟩)
    (first
      | (go_at_call 38; refine (magnitude_any _ _ _).mono ?_; rintro e w2 ⟨rfl, hb2⟩; have c2 := (c1.next hb2).1; have y2 := (y1.next hb2).1; have x2 := (x1.next hb2).1))
  go_wp2_with fail
  go_ret2
  exact ⟨by rw [HF.out]; rfl, below_call (below_call (below_box (below_box (below_box (Below.refl _ _) _) _) _) hb).drew hb2⟩
end Go.Proofs.Ytckhlcifpeocdaa
