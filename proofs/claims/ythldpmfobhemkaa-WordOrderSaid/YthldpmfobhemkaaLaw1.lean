/- The walks of layer 1's awake, of Shift to the left, and of WordShifts. -/
import Derived.Test.YthldpmfobhemkaaRefs
namespace Go.Proofs.Ythldpmfobhemkaa
open Go.RowKit

theorem num_three (w : World) : Calls Try.prog 16 #[.iface 67 (.int .i64 3)] w fun e w' => e = .returned (.int .i64 3) ∧ w = w' := num_any 3 w
theorem num_13 (w : World) : Calls Try.prog 16 #[.iface 67 (.int .i64 13)] w fun e w' => e = .returned (.int .i64 13) ∧ w = w' := num_any 13 w
theorem num_nil (w : World) : Calls Try.prog 16 #[.nilIface] w fun e w' => e = .returned (.int .i64 0) ∧ w = w' := num_any 0 w
theorem aw_mul (w : World) : Calls Try.prog 17 #[.agg #[.int .i64 8, .int .i64 0], .int .i64 7, .int .i64 9, .int .i64 4, .int .i64 2] w fun e w' => e = .returned (.tuple #[.int .i64 4, .bool false, .nilIface]) ∧ Below w.heap.size w w' := by
  have h := Mul_yes 8 0 7 9 4 2 (by unfold okW okF; decide) (by decide) (by decide) (by decide) w
  rw [show rnd (7 * 9) 4 2 = 4 by decide, show satV 8 4 = 4 by decide, show satB 8 4 = false by decide] at h
  exact h
theorem aw_add (w : World) : Calls Try.prog 22 #[.agg #[.int .i64 8, .int .i64 0], .int .i64 100, .int .i64 50] w fun e w' => e = .returned (.tuple #[.int .i64 127, .bool true, .nilIface]) ∧ Below w.heap.size w w' := by
  have h := Add_yes 8 0 100 50 (by unfold okW okF; decide) w
  rw [show satV 8 (100 + 50) = 127 by decide, show satB 8 (100 + 50) = true by decide] at h
  exact h
theorem aw_shift (w : World) : Calls Try.prog 18 #[.int .i64 (-5), .int .i64 1, .int .i64 1] w fun e w' => e = .returned (.tuple #[.int .i64 (-2), .nilIface]) ∧ Below w.heap.size w w' := by
  have h := Shift_pos (-5) 1 1 (by decide) (by decide) (by decide) (by decide) (by decide) w
  rw [show rnd (-5) 1 1 = -2 by decide] at h
  exact h
set_option maxHeartbeats 1000000 in
theorem awake_any (w : World) : Calls Try.prog 14 #[] w fun e w' => e = .returned (.bool true) ∧ Below w.heap.size w w' := by
  go_enter Try.func14, Try.ntmps14
  go_wp2_with fail
  (with_reducible refine (aw_mul _).mono ?_)
  rintro e w1 ⟨rfl, hb1⟩
  obtain ⟨bF1, cF1, fF1, zF1⟩ := (Blk.new w 23 #[.int .i64 8, .int .i64 0]).next hb1
  simp at bF1 cF1 fF1 zF1
  have B1 := below_call (below_box (Below.refl w.heap.size w) _) hb1
  go_wp2_with fail
  (with_reducible refine (aw_add _).mono ?_)
  rintro e w2 ⟨rfl, hb2⟩
  have B2 := below_call B1 hb2
  go_wp2_with fail
  (with_reducible refine (aw_shift _).mono ?_)
  rintro e w3 ⟨rfl, hb3⟩
  have B3 := below_call B2 hb3
  go_wp2_with fail
  go_ret
  exact ⟨rfl, B3⟩
/-- x * 2^k, as an int holds it. -/
def shl (x : Int) (k : Nat) : Int := IntKind.i64.wrap (x * 2 ^ k)

set_option maxHeartbeats 1000000 in
theorem Shift_neg (x : Int) (k : Nat) (m : Int) (hn : 1 ≤ k) (hn2 : k ≤ 62) (hm : 0 ≤ m) (hm2 : m ≤ 3) (h : shl x k / 2 ^ k = x) (w : World) : Calls Try.prog 18 #[.int .i64 x, .int .i64 (-(k : Int)), .int .i64 m] w fun e w' => e = .returned (.tuple #[.int .i64 (shl x k), .nilIface]) ∧ Below w.heap.size w w' := by
  have hs0 : (0 : Int) ≤ (k : Int) := Int.natCast_nonneg _
  have hs1 : (k : Int) ≤ 64 := by omega
  have hs2 : 1 ≤ (k : Int) := by omega
  have hs3 : IntKind.i64.wrap (k : Int) = k := IntWalk.i64_in _ (by omega)
  have hy : IntKind.i64.wrap (x * 2 ^ k) = shl x k := rfl
  have hx : (shl x k / 2 ^ k == x) = true := by simp [h]
  have hx2 : (shl x k / 2 ^ k != x) = false := by simp [h]
  clear h
  generalize shl x k = y at *
  go_enter Try.func18, Try.ntmps18
  go_wp2_with fail
  (with_reducible refine (within_yes _ _ _ (by omega) (by omega) _).mono ?_)
  rintro e w' ⟨rfl, rfl⟩
  go_wp2_with fail
  (with_reducible refine (mode_yes _ hm hm2 _).mono ?_)
  rintro e w' ⟨rfl, rfl⟩
  go_wp2_with fail
  refine bodyPost_ret (v := .tuple #[.int .i64 y, .nilIface]) ?_ rfl ⟨rfl, ?_⟩
  · simp [results, Try.results18, go_sem]
  · exact Below.refl w.heap.size w

set_option maxHeartbeats 1000000 in
theorem Shift_over (x : Int) (k : Nat) (m : Int) (hn : 1 ≤ k) (hn2 : k ≤ 62) (hm : 0 ≤ m) (hm2 : m ≤ 3) (h : ¬ shl x k / 2 ^ k = x) (w : World) : Calls Try.prog 18 #[.int .i64 x, .int .i64 (-(k : Int)), .int .i64 m] w fun e w' => e = .returned (.tuple #[.int .i64 0, .iface 67 (.int .i64 13)]) ∧ Below w.heap.size w w' := by
  have hs0 : (0 : Int) ≤ (k : Int) := Int.natCast_nonneg _
  have hs1 : (k : Int) ≤ 64 := by omega
  have hs2 : 1 ≤ (k : Int) := by omega
  have hs3 : IntKind.i64.wrap (k : Int) = k := IntWalk.i64_in _ (by omega)
  have hy : IntKind.i64.wrap (x * 2 ^ k) = shl x k := rfl
  have hx : (shl x k / 2 ^ k == x) = false := by simp [h]
  have hx2 : (shl x k / 2 ^ k != x) = true := by simp [h]
  clear h
  generalize shl x k = y at *
  go_enter Try.func18, Try.ntmps18
  go_wp2_with fail
  (with_reducible refine (within_yes _ _ _ (by omega) (by omega) _).mono ?_)
  rintro e w' ⟨rfl, rfl⟩
  go_wp2_with fail
  (with_reducible refine (mode_yes _ hm hm2 _).mono ?_)
  rintro e w' ⟨rfl, rfl⟩
  go_wp2_with fail
  refine bodyPost_ret (v := .tuple #[.int .i64 0, .iface 67 (.int .i64 13)]) ?_ rfl ⟨rfl, ?_⟩
  · simp [results, Try.results18, go_sem]
  · exact Below.refl w.heap.size w

set_option maxHeartbeats 1000000 in
theorem rShift_neg (x : Int) (k : Nat) (m : Int) (hn : 1 ≤ k) (hn2 : k ≤ 62) (hm : 0 ≤ m) (hm2 : m ≤ 3) (h : shl x k / 2 ^ k = x) (w : World) : Calls Try.prog 19 #[.int .i64 x, .int .i64 (-(k : Int)), .int .i64 m] w fun e w' => e = .returned (.tuple #[.int .i64 (shl x k), .int .i64 0]) ∧ w = w' := by
  have hs0 : (0 : Int) ≤ (k : Int) := Int.natCast_nonneg _
  have hs1 : (k : Int) ≤ 64 := by omega
  have hs2 : 1 ≤ (k : Int) := by omega
  have hs3 : IntKind.i64.wrap (k : Int) = k := IntWalk.i64_in _ (by omega)
  have hy : IntKind.i64.wrap (x * 2 ^ k) = shl x k := rfl
  have hx : (shl x k / 2 ^ k == x) = true := by simp [h]
  have hx2 : (shl x k / 2 ^ k != x) = false := by simp [h]
  clear h
  generalize shl x k = y at *
  go_enter Try.func19, Try.ntmps19
  go_wp2_with fail
  (with_reducible refine (rmode_yes _ hm hm2 _).mono ?_)
  rintro e w' ⟨rfl, rfl⟩
  go_wp2_with fail
  refine bodyPost_ret (v := .tuple #[.int .i64 y, .int .i64 0]) ?_ rfl ⟨rfl, ?_⟩
  · simp [results, Try.results19, go_sem]
  · exact rfl

set_option maxHeartbeats 1000000 in
theorem rShift_over (x : Int) (k : Nat) (m : Int) (hn : 1 ≤ k) (hn2 : k ≤ 62) (hm : 0 ≤ m) (hm2 : m ≤ 3) (h : ¬ shl x k / 2 ^ k = x) (w : World) : Calls Try.prog 19 #[.int .i64 x, .int .i64 (-(k : Int)), .int .i64 m] w fun e w' => e = .returned (.tuple #[.int .i64 0, .int .i64 13]) ∧ w = w' := by
  have hs0 : (0 : Int) ≤ (k : Int) := Int.natCast_nonneg _
  have hs1 : (k : Int) ≤ 64 := by omega
  have hs2 : 1 ≤ (k : Int) := by omega
  have hs3 : IntKind.i64.wrap (k : Int) = k := IntWalk.i64_in _ (by omega)
  have hy : IntKind.i64.wrap (x * 2 ^ k) = shl x k := rfl
  have hx : (shl x k / 2 ^ k == x) = false := by simp [h]
  have hx2 : (shl x k / 2 ^ k != x) = true := by simp [h]
  clear h
  generalize shl x k = y at *
  go_enter Try.func19, Try.ntmps19
  go_wp2_with fail
  (with_reducible refine (rmode_yes _ hm hm2 _).mono ?_)
  rintro e w' ⟨rfl, rfl⟩
  go_wp2_with fail
  refine bodyPost_ret (v := .tuple #[.int .i64 0, .int .i64 13]) ?_ rfl ⟨rfl, ?_⟩
  · simp [results, Try.results19, go_sem]
  · exact rfl

set_option maxHeartbeats 1000000 in
theorem shifts_any (x n m : Int) (hx : -9223372036854775808 ≤ x) (hx2 : x ≤ 9223372036854775807) (w : World) : Calls Try.prog 4 #[.int .i64 x, .agg #[.int .i64 n, .int .i64 m]] w fun e w' => e = .returned (.bool true) ∧ Below w.heap.size w w' := by
  by_cases h : (-62 ≤ n ∧ n ≤ 62) ∧ 0 ≤ m ∧ m ≤ 3
  · by_cases hn : 0 ≤ n
    · obtain ⟨k, rfl⟩ : ∃ k : Nat, n = k := ⟨n.toNat, by omega⟩
      have S := Lib.hid (Shift_pos x k m (by omega) h.2.1 h.2.2 hx hx2)
      have R := Lib.hid (rShift_pos x k m (by omega) h.2.1 h.2.2 hx hx2)
      generalize rnd x k m = z at *
      clear h hn
      go_enter Try.func4, Try.ntmps4
      go_wp2_with fail
      (with_reducible refine (awake_any _).mono ?_)
      rintro e w1 ⟨rfl, hb1⟩
      obtain ⟨bF1, cF1, fF1, zF1⟩ := (Blk.new w 28 #[.int .i64 (k : Int), .int .i64 m]).next hb1
      simp at bF1 cF1 fF1 zF1
      have B1 := below_call (below_box (Below.refl w.heap.size w) _) hb1
      go_wp2_with fail
      (with_reducible refine (S.out _).mono ?_)
      rintro e w2 ⟨rfl, hb2⟩
      obtain ⟨bF2, cF2, fF2, zF2⟩ := bF1.next hb2
      clear cF1 fF1 zF1
      have B2 := below_call B1 hb2
      go_wp2_with fail
      (with_reducible refine (R.out _).mono ?_)
      rintro e w' ⟨rfl, rfl⟩
      go_wp2_with fail
      (with_reducible refine (num_nil _).mono ?_)
      rintro e w' ⟨rfl, rfl⟩
      go_wp2_with fail
      go_ret
      exact ⟨ret_bool (by simp), B2⟩
    · obtain ⟨k, rfl⟩ : ∃ k : Nat, n = -(k : Int) := ⟨(-n).toNat, by omega⟩
      by_cases hy : shl x k / 2 ^ k = x
      · have S := Lib.hid (Shift_neg x k m (by omega) (by omega) h.2.1 h.2.2 hy)
        have R := Lib.hid (rShift_neg x k m (by omega) (by omega) h.2.1 h.2.2 hy)
        generalize shl x k = z at *
        clear h hn hy
        go_enter Try.func4, Try.ntmps4
        go_wp2_with fail
        (with_reducible refine (awake_any _).mono ?_)
        rintro e w1 ⟨rfl, hb1⟩
        obtain ⟨bF1, cF1, fF1, zF1⟩ := (Blk.new w 28 #[.int .i64 (-(k : Int)), .int .i64 m]).next hb1
        simp at bF1 cF1 fF1 zF1
        have B1 := below_call (below_box (Below.refl w.heap.size w) _) hb1
        go_wp2_with fail
        (with_reducible refine (S.out _).mono ?_)
        rintro e w2 ⟨rfl, hb2⟩
        obtain ⟨bF2, cF2, fF2, zF2⟩ := bF1.next hb2
        clear cF1 fF1 zF1
        have B2 := below_call B1 hb2
        go_wp2_with fail
        (with_reducible refine (R.out _).mono ?_)
        rintro e w' ⟨rfl, rfl⟩
        go_wp2_with fail
        (with_reducible refine (num_nil _).mono ?_)
        rintro e w' ⟨rfl, rfl⟩
        go_wp2_with fail
        go_ret
        exact ⟨ret_bool (by simp), B2⟩
      · have S := Lib.hid (Shift_over x k m (by omega) (by omega) h.2.1 h.2.2 hy)
        have R := Lib.hid (rShift_over x k m (by omega) (by omega) h.2.1 h.2.2 hy)
        clear h hn hy
        go_enter Try.func4, Try.ntmps4
        go_wp2_with fail
        (with_reducible refine (awake_any _).mono ?_)
        rintro e w1 ⟨rfl, hb1⟩
        obtain ⟨bF1, cF1, fF1, zF1⟩ := (Blk.new w 28 #[.int .i64 (-(k : Int)), .int .i64 m]).next hb1
        simp at bF1 cF1 fF1 zF1
        have B1 := below_call (below_box (Below.refl w.heap.size w) _) hb1
        go_wp2_with fail
        (with_reducible refine (S.out _).mono ?_)
        rintro e w2 ⟨rfl, hb2⟩
        obtain ⟨bF2, cF2, fF2, zF2⟩ := bF1.next hb2
        clear cF1 fF1 zF1
        have B2 := below_call B1 hb2
        go_wp2_with fail
        (with_reducible refine (R.out _).mono ?_)
        rintro e w' ⟨rfl, rfl⟩
        go_wp2_with fail
        (with_reducible refine (num_13 _).mono ?_)
        rintro e w' ⟨rfl, rfl⟩
        go_wp2_with fail
        go_ret
        exact ⟨ret_bool (by simp), B2⟩
  · have S := Lib.hid (Shift_no x n m h)
    have R := Lib.hid (rShift_no x n m h)
    clear h
    go_enter Try.func4, Try.ntmps4
    go_wp2_with fail
    (with_reducible refine (awake_any _).mono ?_)
    rintro e w1 ⟨rfl, hb1⟩
    obtain ⟨bF1, cF1, fF1, zF1⟩ := (Blk.new w 28 #[.int .i64 n, .int .i64 m]).next hb1
    simp at bF1 cF1 fF1 zF1
    have B1 := below_call (below_box (Below.refl w.heap.size w) _) hb1
    go_wp2_with fail
    (with_reducible refine (S.out _).mono ?_)
    rintro e w2 ⟨rfl, hb2⟩
    obtain ⟨bF2, cF2, fF2, zF2⟩ := bF1.next hb2
    clear cF1 fF1 zF1
    have B2 := below_call B1 hb2
    go_wp2_with fail
    (with_reducible refine (R.out _).mono ?_)
    rintro e w' ⟨rfl, rfl⟩
    go_wp2_with fail
    (with_reducible refine (num_three _).mono ?_)
    rintro e w' ⟨rfl, rfl⟩
    go_wp2_with fail
    go_ret
    exact ⟨ret_bool (by simp), B2⟩

end Go.Proofs.Ythldpmfobhemkaa
