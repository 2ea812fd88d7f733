/- The walk of WordNear. -/
import Derived.Test.YthldpmfobhemkaaLaw2
namespace Go.Proofs.Ythldpmfobhemkaa
open Go.RowKit

/-- What rounding loses, mode by mode. -/
theorem lost_any (x : Int) (k : Nat) {m : Int} : ∃ y l : Int, rnd x k m = y ∧ x - y * 2 ^ k = l ∧ y * 2 ^ k = x - l ∧ (y = x / 2 ^ k ∨ y = x / 2 ^ k + 1) ∧ (-(2 ^ k) ≤ l ∧ l ≤ 2 ^ k) ∧ (k = 0 → y = x) ∧ (m = 0 → 0 ≤ l ∧ l < 2 ^ k) ∧ (m = 1 → (0 ≤ x ∧ 0 ≤ l ∧ l < 2 ^ k) ∨ (x < 0 ∧ l ≤ 0 ∧ -l < 2 ^ k)) ∧ (m = 2 ∨ m = 3 → 2 * l ≤ 2 ^ k ∧ -2 * l ≤ 2 ^ k) := by
  have a := qr x k
  have hp := p2 k
  have nq := neg_q x k
  have z : k = 0 → rnd x k m = x := by rintro rfl; exact rnd_zero x m
  have e := rnd_eq x k m
  have hu := @up_iff (x / 2 ^ k) (x % 2 ^ k) (2 ^ k) m (decide (x < 0))
  simp only [decide_eq_true_eq] at hu
  rw [hu] at e
  clear hu
  generalize rnd x k m = y at *
  have c : (2 : Int) ^ k * (x / 2 ^ k) = x / 2 ^ k * 2 ^ k := Int.mul_comm _ _
  rw [c] at a
  generalize x / 2 ^ k = q at *
  generalize x % 2 ^ k = r at *
  generalize (2 : Int) ^ k = d at *
  rcases e with ⟨u, rfl⟩ | ⟨u, rfl⟩
  · have s : (q + 1) * d = q * d + d := by rw [Int.add_mul, Int.one_mul]
    refine ⟨_, x - (q + 1) * d, rfl, rfl, by omega, by omega, by omega, z, ?_, ?_, ?_⟩ <;> omega
  · exact ⟨_, x - y * d, rfl, rfl, by omega, by omega, by omega, z, by omega, by omega, by omega⟩
theorem qhalf {x : Int} {k : Nat} (hk : ¬ k = 0) (h : -1152921504606846976 ≤ x) (h2 : x ≤ 1152921504606846976) : -1152921504606846976 ≤ x / 2 ^ k ∧ x / 2 ^ k + 1 ≤ 1152921504606846976 := by
  obtain ⟨j, rfl⟩ : ∃ j, k = j + 1 := ⟨k - 1, by omega⟩
  rw [p2_succ, ← Int.ediv_ediv_of_nonneg (by decide)]
  have := q_le (x := x / 2) (B := 576460752303423488) j (by decide) (by omega) (by omega)
  omega

set_option maxRecDepth 10000 in
set_option maxHeartbeats 8000000 in
theorem near_any (x a : Int) (ha : 0 ≤ a) (w : World) : Calls Try.prog 6 #[.int .i64 x, .int .u8 a] w fun e w' => e = .returned (.bool true) ∧ Below w.heap.size w w' := by
  have hx : -1152921504606846976 ≤ clp x (-1152921504606846976) 1152921504606846976 ∧ clp x (-1152921504606846976) 1152921504606846976 ≤ 1152921504606846976 := by unfold clp; omega
  have ea : a.tmod 40 = a % 40 := Int.tmod_eq_emod_of_nonneg ha
  obtain ⟨k, hk⟩ : ∃ k : Nat, a % 40 = k := ⟨(a % 40).toNat, by omega⟩
  have hk39 : k ≤ 39 := by omega
  have hk62 : k ≤ 62 := by omega
  go_enter Try.func6, Try.ntmps6
  go_wp2_with fail
  (with_reducible refine (awake_any _).mono ?_)
  rintro e w1 ⟨rfl, hb1⟩
  have hp := p2 k
  have hp2 := p2_le hk39
  have hp3 : (2 : Int) ^ 39 = 549755813888 := by decide
  have w0 : IntKind.i64.wrap (2 ^ k) = 2 ^ k := IntWalk.i64_in _ (by omega)
  have w01 : IntKind.i64.wrap (1 * 2 ^ k) = 2 ^ k := by rw [Int.one_mul]; exact w0
  go_wp2_with (go_at_call 21; (with_reducible refine (cClip_any _ _ _ _).mono ?_); rintro e w' ⟨rfl, rfl⟩)
  generalize clp x (-1152921504606846976) 1152921504606846976 = x at *
  have hs0 : (0 : Int) ≤ (k : Int) := Int.natCast_nonneg _
  have hs1 : (k : Int) ≤ 64 := by omega
  have q1 := q_le (x := x) (B := 1152921504606846976) k (by decide) hx.1 hx.2
  have wq1 : IntKind.i64.wrap (x / 2 ^ k + 2) = x / 2 ^ k + 2 := IntWalk.i64_in _ (by omega)
  have wq2 : IntKind.i64.wrap (x / 2 ^ k - 2) = x / 2 ^ k - 2 := IntWalk.i64_in _ (by omega)
  clear hk ea
  by_cases hk0 : k = 0
  · by_cases hxs : x < 0
    · have gk : decide (0 < (k : Int)) = false := decide_eq_false (by omega)
      have gk2 : decide (0 < k) = false := decide_eq_false (by omega)
      replace hk0 := Lib.hid hk0
      have gx : decide (0 ≤ x) = false := decide_eq_false (by omega)
      have gx2 : decide (x < 0) = true := decide_eq_true hxs
      go_loopw [21] (fun i wr => ∃ r : Nat, r ≤ 4 ∧ i = .int .i64 r ∧ Below w.heap.size w wr) (fun i _ => 4 - (intOf i).toNat)
      case atStart => exact ⟨0, by omega, rfl, hb1⟩
      case round =>
        obtain ⟨r, hr, rfl, B⟩ := hrel
        have ways : r = 0 ∨ r = 1 ∨ r = 2 ∨ r = 3 ∨ r = 4 := by omega
        rcases ways with rfl | rfl | rfl | rfl | rfl
        · obtain ⟨y, l, ey, el, eyl, yq, lb, y0, m0, m1, m23⟩ := lost_any x k (m := 0)
          have S := Lib.hid (Shift_pos x k 0 hk62 (by omega) (by omega) (by omega) (by omega))
          rw [ey] at S
          clear ey
          have yb : -1152921504606846976 ≤ y ∧ y ≤ 1152921504606846976 := by
            have := y0 hk0.out; omega
          have wy : IntKind.i64.wrap (y * 2 ^ k) = y * 2 ^ k := IntWalk.i64_in _ (by omega)
          have wl : IntKind.i64.wrap (x - y * 2 ^ k) = l := by rw [el]; exact IntWalk.i64_in _ (by omega)
          have a1 : decide (1152921504606846976 < y) = false := decide_eq_false (by omega)
          have a2 : decide (y < -1152921504606846976) = false := decide_eq_false (by omega)
          have b1 : decide (0 ≤ l) = true := decide_eq_true (by have := m0 rfl; omega)
          have b2 : decide (l < 2 ^ k) = true := decide_eq_true (by have := m0 rfl; omega)
          clear el eyl yq lb y0 m0 m1 m23 yb
          go_wp2_with fail
          (with_reducible refine (S.out _).mono ?_)
          rintro e w2 ⟨rfl, hb2⟩
          have B2 := below_call B hb2
          go_wp2_with fail
          exact ⟨⟨1, by omega, by go_num, B2⟩, by simp [intOf]⟩
        · obtain ⟨y, l, ey, el, eyl, yq, lb, y0, m0, m1, m23⟩ := lost_any x k (m := 1)
          have S := Lib.hid (Shift_pos x k 1 hk62 (by omega) (by omega) (by omega) (by omega))
          rw [ey] at S
          clear ey
          have yb : -1152921504606846976 ≤ y ∧ y ≤ 1152921504606846976 := by
            have := y0 hk0.out; omega
          have wy : IntKind.i64.wrap (y * 2 ^ k) = y * 2 ^ k := IntWalk.i64_in _ (by omega)
          have wl : IntKind.i64.wrap (x - y * 2 ^ k) = l := by rw [el]; exact IntWalk.i64_in _ (by omega)
          have a1 : decide (1152921504606846976 < y) = false := decide_eq_false (by omega)
          have a2 : decide (y < -1152921504606846976) = false := decide_eq_false (by omega)
          have b1 : decide (l ≤ 0) = true := decide_eq_true (by have := m1 rfl; omega)
          have b2 : decide (-l < 2 ^ k) = true := decide_eq_true (by have := m1 rfl; omega)
          have b3 : IntKind.i64.wrap (-l) = -l := IntWalk.i64_in _ (by omega)
          clear el eyl yq lb y0 m0 m1 m23 yb
          go_wp2_with fail
          (with_reducible refine (S.out _).mono ?_)
          rintro e w2 ⟨rfl, hb2⟩
          have B2 := below_call B hb2
          go_wp2_with fail
          exact ⟨⟨2, by omega, by go_num, B2⟩, by simp [intOf]⟩
        · obtain ⟨y, l, ey, el, eyl, yq, lb, y0, m0, m1, m23⟩ := lost_any x k (m := 2)
          have S := Lib.hid (Shift_pos x k 2 hk62 (by omega) (by omega) (by omega) (by omega))
          rw [ey] at S
          clear ey
          have yb : -1152921504606846976 ≤ y ∧ y ≤ 1152921504606846976 := by
            have := y0 hk0.out; omega
          have wy : IntKind.i64.wrap (y * 2 ^ k) = y * 2 ^ k := IntWalk.i64_in _ (by omega)
          have wl : IntKind.i64.wrap (x - y * 2 ^ k) = l := by rw [el]; exact IntWalk.i64_in _ (by omega)
          have a1 : decide (1152921504606846976 < y) = false := decide_eq_false (by omega)
          have a2 : decide (y < -1152921504606846976) = false := decide_eq_false (by omega)
          have b1 : decide (2 * l ≤ 2 ^ k) = true := decide_eq_true (by have := m23 (by omega); omega)
          have b2 : decide (-2 * l ≤ 2 ^ k) = true := decide_eq_true (by have := m23 (by omega); omega)
          have b3 : IntKind.i64.wrap (2 * l) = 2 * l := IntWalk.i64_in _ (by omega)
          have b4 : IntKind.i64.wrap (-2 * l) = -2 * l := IntWalk.i64_in _ (by omega)
          have b5 : decide (-(2 * l) ≤ 2 ^ k) = true := decide_eq_true (by have := m23 (by omega); omega)
          have b6 : IntKind.i64.wrap (-(2 * l)) = -(2 * l) := IntWalk.i64_in _ (by omega)
          clear el eyl yq lb y0 m0 m1 m23 yb
          go_wp2_with fail
          (with_reducible refine (S.out _).mono ?_)
          rintro e w2 ⟨rfl, hb2⟩
          have B2 := below_call B hb2
          go_wp2_with fail
          exact ⟨⟨3, by omega, by go_num, B2⟩, by simp [intOf]⟩
        · obtain ⟨y, l, ey, el, eyl, yq, lb, y0, m0, m1, m23⟩ := lost_any x k (m := 3)
          have S := Lib.hid (Shift_pos x k 3 hk62 (by omega) (by omega) (by omega) (by omega))
          rw [ey] at S
          clear ey
          have yb : -1152921504606846976 ≤ y ∧ y ≤ 1152921504606846976 := by
            have := y0 hk0.out; omega
          have wy : IntKind.i64.wrap (y * 2 ^ k) = y * 2 ^ k := IntWalk.i64_in _ (by omega)
          have wl : IntKind.i64.wrap (x - y * 2 ^ k) = l := by rw [el]; exact IntWalk.i64_in _ (by omega)
          have a1 : decide (1152921504606846976 < y) = false := decide_eq_false (by omega)
          have a2 : decide (y < -1152921504606846976) = false := decide_eq_false (by omega)
          have b1 : decide (2 * l ≤ 2 ^ k) = true := decide_eq_true (by have := m23 (by omega); omega)
          have b2 : decide (-2 * l ≤ 2 ^ k) = true := decide_eq_true (by have := m23 (by omega); omega)
          have b3 : IntKind.i64.wrap (2 * l) = 2 * l := IntWalk.i64_in _ (by omega)
          have b4 : IntKind.i64.wrap (-2 * l) = -2 * l := IntWalk.i64_in _ (by omega)
          have b5 : decide (-(2 * l) ≤ 2 ^ k) = true := decide_eq_true (by have := m23 (by omega); omega)
          have b6 : IntKind.i64.wrap (-(2 * l)) = -(2 * l) := IntWalk.i64_in _ (by omega)
          clear el eyl yq lb y0 m0 m1 m23 yb
          go_wp2_with fail
          (with_reducible refine (S.out _).mono ?_)
          rintro e w2 ⟨rfl, hb2⟩
          have B2 := below_call B hb2
          go_wp2_with fail
          exact ⟨⟨4, by omega, by go_num, B2⟩, by simp [intOf]⟩
        · go_wp2_with fail
          go_ret
          exact ⟨rfl, B⟩
    · have gk : decide (0 < (k : Int)) = false := decide_eq_false (by omega)
      have gk2 : decide (0 < k) = false := decide_eq_false (by omega)
      replace hk0 := Lib.hid hk0
      have gx : decide (0 ≤ x) = true := decide_eq_true (by omega)
      have gx2 : decide (x < 0) = false := decide_eq_false hxs
      go_loopw [21] (fun i wr => ∃ r : Nat, r ≤ 4 ∧ i = .int .i64 r ∧ Below w.heap.size w wr) (fun i _ => 4 - (intOf i).toNat)
      case atStart => exact ⟨0, by omega, rfl, hb1⟩
      case round =>
        obtain ⟨r, hr, rfl, B⟩ := hrel
        have ways : r = 0 ∨ r = 1 ∨ r = 2 ∨ r = 3 ∨ r = 4 := by omega
        rcases ways with rfl | rfl | rfl | rfl | rfl
        · obtain ⟨y, l, ey, el, eyl, yq, lb, y0, m0, m1, m23⟩ := lost_any x k (m := 0)
          have S := Lib.hid (Shift_pos x k 0 hk62 (by omega) (by omega) (by omega) (by omega))
          rw [ey] at S
          clear ey
          have yb : -1152921504606846976 ≤ y ∧ y ≤ 1152921504606846976 := by
            have := y0 hk0.out; omega
          have wy : IntKind.i64.wrap (y * 2 ^ k) = y * 2 ^ k := IntWalk.i64_in _ (by omega)
          have wl : IntKind.i64.wrap (x - y * 2 ^ k) = l := by rw [el]; exact IntWalk.i64_in _ (by omega)
          have a1 : decide (1152921504606846976 < y) = false := decide_eq_false (by omega)
          have a2 : decide (y < -1152921504606846976) = false := decide_eq_false (by omega)
          have b1 : decide (0 ≤ l) = true := decide_eq_true (by have := m0 rfl; omega)
          have b2 : decide (l < 2 ^ k) = true := decide_eq_true (by have := m0 rfl; omega)
          clear el eyl yq lb y0 m0 m1 m23 yb
          go_wp2_with fail
          (with_reducible refine (S.out _).mono ?_)
          rintro e w2 ⟨rfl, hb2⟩
          have B2 := below_call B hb2
          go_wp2_with fail
          exact ⟨⟨1, by omega, by go_num, B2⟩, by simp [intOf]⟩
        · obtain ⟨y, l, ey, el, eyl, yq, lb, y0, m0, m1, m23⟩ := lost_any x k (m := 1)
          have S := Lib.hid (Shift_pos x k 1 hk62 (by omega) (by omega) (by omega) (by omega))
          rw [ey] at S
          clear ey
          have yb : -1152921504606846976 ≤ y ∧ y ≤ 1152921504606846976 := by
            have := y0 hk0.out; omega
          have wy : IntKind.i64.wrap (y * 2 ^ k) = y * 2 ^ k := IntWalk.i64_in _ (by omega)
          have wl : IntKind.i64.wrap (x - y * 2 ^ k) = l := by rw [el]; exact IntWalk.i64_in _ (by omega)
          have a1 : decide (1152921504606846976 < y) = false := decide_eq_false (by omega)
          have a2 : decide (y < -1152921504606846976) = false := decide_eq_false (by omega)
          have b1 : decide (0 ≤ l) = true := decide_eq_true (by have := m1 rfl; omega)
          have b2 : decide (l < 2 ^ k) = true := decide_eq_true (by have := m1 rfl; omega)
          clear el eyl yq lb y0 m0 m1 m23 yb
          go_wp2_with fail
          (with_reducible refine (S.out _).mono ?_)
          rintro e w2 ⟨rfl, hb2⟩
          have B2 := below_call B hb2
          go_wp2_with fail
          exact ⟨⟨2, by omega, by go_num, B2⟩, by simp [intOf]⟩
        · obtain ⟨y, l, ey, el, eyl, yq, lb, y0, m0, m1, m23⟩ := lost_any x k (m := 2)
          have S := Lib.hid (Shift_pos x k 2 hk62 (by omega) (by omega) (by omega) (by omega))
          rw [ey] at S
          clear ey
          have yb : -1152921504606846976 ≤ y ∧ y ≤ 1152921504606846976 := by
            have := y0 hk0.out; omega
          have wy : IntKind.i64.wrap (y * 2 ^ k) = y * 2 ^ k := IntWalk.i64_in _ (by omega)
          have wl : IntKind.i64.wrap (x - y * 2 ^ k) = l := by rw [el]; exact IntWalk.i64_in _ (by omega)
          have a1 : decide (1152921504606846976 < y) = false := decide_eq_false (by omega)
          have a2 : decide (y < -1152921504606846976) = false := decide_eq_false (by omega)
          have b1 : decide (2 * l ≤ 2 ^ k) = true := decide_eq_true (by have := m23 (by omega); omega)
          have b2 : decide (-2 * l ≤ 2 ^ k) = true := decide_eq_true (by have := m23 (by omega); omega)
          have b3 : IntKind.i64.wrap (2 * l) = 2 * l := IntWalk.i64_in _ (by omega)
          have b4 : IntKind.i64.wrap (-2 * l) = -2 * l := IntWalk.i64_in _ (by omega)
          have b5 : decide (-(2 * l) ≤ 2 ^ k) = true := decide_eq_true (by have := m23 (by omega); omega)
          have b6 : IntKind.i64.wrap (-(2 * l)) = -(2 * l) := IntWalk.i64_in _ (by omega)
          clear el eyl yq lb y0 m0 m1 m23 yb
          go_wp2_with fail
          (with_reducible refine (S.out _).mono ?_)
          rintro e w2 ⟨rfl, hb2⟩
          have B2 := below_call B hb2
          go_wp2_with fail
          exact ⟨⟨3, by omega, by go_num, B2⟩, by simp [intOf]⟩
        · obtain ⟨y, l, ey, el, eyl, yq, lb, y0, m0, m1, m23⟩ := lost_any x k (m := 3)
          have S := Lib.hid (Shift_pos x k 3 hk62 (by omega) (by omega) (by omega) (by omega))
          rw [ey] at S
          clear ey
          have yb : -1152921504606846976 ≤ y ∧ y ≤ 1152921504606846976 := by
            have := y0 hk0.out; omega
          have wy : IntKind.i64.wrap (y * 2 ^ k) = y * 2 ^ k := IntWalk.i64_in _ (by omega)
          have wl : IntKind.i64.wrap (x - y * 2 ^ k) = l := by rw [el]; exact IntWalk.i64_in _ (by omega)
          have a1 : decide (1152921504606846976 < y) = false := decide_eq_false (by omega)
          have a2 : decide (y < -1152921504606846976) = false := decide_eq_false (by omega)
          have b1 : decide (2 * l ≤ 2 ^ k) = true := decide_eq_true (by have := m23 (by omega); omega)
          have b2 : decide (-2 * l ≤ 2 ^ k) = true := decide_eq_true (by have := m23 (by omega); omega)
          have b3 : IntKind.i64.wrap (2 * l) = 2 * l := IntWalk.i64_in _ (by omega)
          have b4 : IntKind.i64.wrap (-2 * l) = -2 * l := IntWalk.i64_in _ (by omega)
          have b5 : decide (-(2 * l) ≤ 2 ^ k) = true := decide_eq_true (by have := m23 (by omega); omega)
          have b6 : IntKind.i64.wrap (-(2 * l)) = -(2 * l) := IntWalk.i64_in _ (by omega)
          clear el eyl yq lb y0 m0 m1 m23 yb
          go_wp2_with fail
          (with_reducible refine (S.out _).mono ?_)
          rintro e w2 ⟨rfl, hb2⟩
          have B2 := below_call B hb2
          go_wp2_with fail
          exact ⟨⟨4, by omega, by go_num, B2⟩, by simp [intOf]⟩
        · go_wp2_with fail
          go_ret
          exact ⟨rfl, B⟩
  · by_cases hxs : x < 0
    · have gk : decide (0 < (k : Int)) = true := decide_eq_true (by omega)
      have gk2 : decide (0 < k) = true := decide_eq_true (by omega)
      have hq := Lib.hid (show -1152921504606846976 ≤ x / 2 ^ k ∧ x / 2 ^ k + 1 ≤ 1152921504606846976 from qhalf hk0 hx.1 hx.2)
      have gx : decide (0 ≤ x) = false := decide_eq_false (by omega)
      have gx2 : decide (x < 0) = true := decide_eq_true hxs
      go_loopw [21] (fun i wr => ∃ r : Nat, r ≤ 4 ∧ i = .int .i64 r ∧ Below w.heap.size w wr) (fun i _ => 4 - (intOf i).toNat)
      case atStart => exact ⟨0, by omega, rfl, hb1⟩
      case round =>
        obtain ⟨r, hr, rfl, B⟩ := hrel
        have ways : r = 0 ∨ r = 1 ∨ r = 2 ∨ r = 3 ∨ r = 4 := by omega
        rcases ways with rfl | rfl | rfl | rfl | rfl
        · obtain ⟨y, l, ey, el, eyl, yq, lb, y0, m0, m1, m23⟩ := lost_any x k (m := 0)
          have S := Lib.hid (Shift_pos x k 0 hk62 (by omega) (by omega) (by omega) (by omega))
          rw [ey] at S
          clear ey
          have yb : -1152921504606846976 ≤ y ∧ y ≤ 1152921504606846976 := by
            have := hq.out; omega
          have wy : IntKind.i64.wrap (y * 2 ^ k) = y * 2 ^ k := IntWalk.i64_in _ (by omega)
          have wl : IntKind.i64.wrap (x - y * 2 ^ k) = l := by rw [el]; exact IntWalk.i64_in _ (by omega)
          have a1 : decide (1152921504606846976 < y) = false := decide_eq_false (by omega)
          have a2 : decide (y < -1152921504606846976) = false := decide_eq_false (by omega)
          have a3 : decide (x / 2 ^ k + 2 < y) = false := decide_eq_false (by omega)
          have a4 : decide (y < x / 2 ^ k - 2) = false := decide_eq_false (by omega)
          have b1 : decide (0 ≤ l) = true := decide_eq_true (by have := m0 rfl; omega)
          have b2 : decide (l < 2 ^ k) = true := decide_eq_true (by have := m0 rfl; omega)
          clear el eyl yq lb y0 m0 m1 m23 yb
          go_wp2_with fail
          (with_reducible refine (S.out _).mono ?_)
          rintro e w2 ⟨rfl, hb2⟩
          have B2 := below_call B hb2
          go_wp2_with fail
          exact ⟨⟨1, by omega, by go_num, B2⟩, by simp [intOf]⟩
        · obtain ⟨y, l, ey, el, eyl, yq, lb, y0, m0, m1, m23⟩ := lost_any x k (m := 1)
          have S := Lib.hid (Shift_pos x k 1 hk62 (by omega) (by omega) (by omega) (by omega))
          rw [ey] at S
          clear ey
          have yb : -1152921504606846976 ≤ y ∧ y ≤ 1152921504606846976 := by
            have := hq.out; omega
          have wy : IntKind.i64.wrap (y * 2 ^ k) = y * 2 ^ k := IntWalk.i64_in _ (by omega)
          have wl : IntKind.i64.wrap (x - y * 2 ^ k) = l := by rw [el]; exact IntWalk.i64_in _ (by omega)
          have a1 : decide (1152921504606846976 < y) = false := decide_eq_false (by omega)
          have a2 : decide (y < -1152921504606846976) = false := decide_eq_false (by omega)
          have a3 : decide (x / 2 ^ k + 2 < y) = false := decide_eq_false (by omega)
          have a4 : decide (y < x / 2 ^ k - 2) = false := decide_eq_false (by omega)
          have b1 : decide (l ≤ 0) = true := decide_eq_true (by have := m1 rfl; omega)
          have b2 : decide (-l < 2 ^ k) = true := decide_eq_true (by have := m1 rfl; omega)
          have b3 : IntKind.i64.wrap (-l) = -l := IntWalk.i64_in _ (by omega)
          clear el eyl yq lb y0 m0 m1 m23 yb
          go_wp2_with fail
          (with_reducible refine (S.out _).mono ?_)
          rintro e w2 ⟨rfl, hb2⟩
          have B2 := below_call B hb2
          go_wp2_with fail
          exact ⟨⟨2, by omega, by go_num, B2⟩, by simp [intOf]⟩
        · obtain ⟨y, l, ey, el, eyl, yq, lb, y0, m0, m1, m23⟩ := lost_any x k (m := 2)
          have S := Lib.hid (Shift_pos x k 2 hk62 (by omega) (by omega) (by omega) (by omega))
          rw [ey] at S
          clear ey
          have yb : -1152921504606846976 ≤ y ∧ y ≤ 1152921504606846976 := by
            have := hq.out; omega
          have wy : IntKind.i64.wrap (y * 2 ^ k) = y * 2 ^ k := IntWalk.i64_in _ (by omega)
          have wl : IntKind.i64.wrap (x - y * 2 ^ k) = l := by rw [el]; exact IntWalk.i64_in _ (by omega)
          have a1 : decide (1152921504606846976 < y) = false := decide_eq_false (by omega)
          have a2 : decide (y < -1152921504606846976) = false := decide_eq_false (by omega)
          have a3 : decide (x / 2 ^ k + 2 < y) = false := decide_eq_false (by omega)
          have a4 : decide (y < x / 2 ^ k - 2) = false := decide_eq_false (by omega)
          have b1 : decide (2 * l ≤ 2 ^ k) = true := decide_eq_true (by have := m23 (by omega); omega)
          have b2 : decide (-2 * l ≤ 2 ^ k) = true := decide_eq_true (by have := m23 (by omega); omega)
          have b3 : IntKind.i64.wrap (2 * l) = 2 * l := IntWalk.i64_in _ (by omega)
          have b4 : IntKind.i64.wrap (-2 * l) = -2 * l := IntWalk.i64_in _ (by omega)
          have b5 : decide (-(2 * l) ≤ 2 ^ k) = true := decide_eq_true (by have := m23 (by omega); omega)
          have b6 : IntKind.i64.wrap (-(2 * l)) = -(2 * l) := IntWalk.i64_in _ (by omega)
          clear el eyl yq lb y0 m0 m1 m23 yb
          go_wp2_with fail
          (with_reducible refine (S.out _).mono ?_)
          rintro e w2 ⟨rfl, hb2⟩
          have B2 := below_call B hb2
          go_wp2_with fail
          exact ⟨⟨3, by omega, by go_num, B2⟩, by simp [intOf]⟩
        · obtain ⟨y, l, ey, el, eyl, yq, lb, y0, m0, m1, m23⟩ := lost_any x k (m := 3)
          have S := Lib.hid (Shift_pos x k 3 hk62 (by omega) (by omega) (by omega) (by omega))
          rw [ey] at S
          clear ey
          have yb : -1152921504606846976 ≤ y ∧ y ≤ 1152921504606846976 := by
            have := hq.out; omega
          have wy : IntKind.i64.wrap (y * 2 ^ k) = y * 2 ^ k := IntWalk.i64_in _ (by omega)
          have wl : IntKind.i64.wrap (x - y * 2 ^ k) = l := by rw [el]; exact IntWalk.i64_in _ (by omega)
          have a1 : decide (1152921504606846976 < y) = false := decide_eq_false (by omega)
          have a2 : decide (y < -1152921504606846976) = false := decide_eq_false (by omega)
          have a3 : decide (x / 2 ^ k + 2 < y) = false := decide_eq_false (by omega)
          have a4 : decide (y < x / 2 ^ k - 2) = false := decide_eq_false (by omega)
          have b1 : decide (2 * l ≤ 2 ^ k) = true := decide_eq_true (by have := m23 (by omega); omega)
          have b2 : decide (-2 * l ≤ 2 ^ k) = true := decide_eq_true (by have := m23 (by omega); omega)
          have b3 : IntKind.i64.wrap (2 * l) = 2 * l := IntWalk.i64_in _ (by omega)
          have b4 : IntKind.i64.wrap (-2 * l) = -2 * l := IntWalk.i64_in _ (by omega)
          have b5 : decide (-(2 * l) ≤ 2 ^ k) = true := decide_eq_true (by have := m23 (by omega); omega)
          have b6 : IntKind.i64.wrap (-(2 * l)) = -(2 * l) := IntWalk.i64_in _ (by omega)
          clear el eyl yq lb y0 m0 m1 m23 yb
          go_wp2_with fail
          (with_reducible refine (S.out _).mono ?_)
          rintro e w2 ⟨rfl, hb2⟩
          have B2 := below_call B hb2
          go_wp2_with fail
          exact ⟨⟨4, by omega, by go_num, B2⟩, by simp [intOf]⟩
        · go_wp2_with fail
          go_ret
          exact ⟨rfl, B⟩
    · have gk : decide (0 < (k : Int)) = true := decide_eq_true (by omega)
      have gk2 : decide (0 < k) = true := decide_eq_true (by omega)
      have hq := Lib.hid (show -1152921504606846976 ≤ x / 2 ^ k ∧ x / 2 ^ k + 1 ≤ 1152921504606846976 from qhalf hk0 hx.1 hx.2)
      have gx : decide (0 ≤ x) = true := decide_eq_true (by omega)
      have gx2 : decide (x < 0) = false := decide_eq_false hxs
      go_loopw [21] (fun i wr => ∃ r : Nat, r ≤ 4 ∧ i = .int .i64 r ∧ Below w.heap.size w wr) (fun i _ => 4 - (intOf i).toNat)
      case atStart => exact ⟨0, by omega, rfl, hb1⟩
      case round =>
        obtain ⟨r, hr, rfl, B⟩ := hrel
        have ways : r = 0 ∨ r = 1 ∨ r = 2 ∨ r = 3 ∨ r = 4 := by omega
        rcases ways with rfl | rfl | rfl | rfl | rfl
        · obtain ⟨y, l, ey, el, eyl, yq, lb, y0, m0, m1, m23⟩ := lost_any x k (m := 0)
          have S := Lib.hid (Shift_pos x k 0 hk62 (by omega) (by omega) (by omega) (by omega))
          rw [ey] at S
          clear ey
          have yb : -1152921504606846976 ≤ y ∧ y ≤ 1152921504606846976 := by
            have := hq.out; omega
          have wy : IntKind.i64.wrap (y * 2 ^ k) = y * 2 ^ k := IntWalk.i64_in _ (by omega)
          have wl : IntKind.i64.wrap (x - y * 2 ^ k) = l := by rw [el]; exact IntWalk.i64_in _ (by omega)
          have a1 : decide (1152921504606846976 < y) = false := decide_eq_false (by omega)
          have a2 : decide (y < -1152921504606846976) = false := decide_eq_false (by omega)
          have a3 : decide (x / 2 ^ k + 2 < y) = false := decide_eq_false (by omega)
          have a4 : decide (y < x / 2 ^ k - 2) = false := decide_eq_false (by omega)
          have b1 : decide (0 ≤ l) = true := decide_eq_true (by have := m0 rfl; omega)
          have b2 : decide (l < 2 ^ k) = true := decide_eq_true (by have := m0 rfl; omega)
          clear el eyl yq lb y0 m0 m1 m23 yb
          go_wp2_with fail
          (with_reducible refine (S.out _).mono ?_)
          rintro e w2 ⟨rfl, hb2⟩
          have B2 := below_call B hb2
          go_wp2_with fail
          exact ⟨⟨1, by omega, by go_num, B2⟩, by simp [intOf]⟩
        · obtain ⟨y, l, ey, el, eyl, yq, lb, y0, m0, m1, m23⟩ := lost_any x k (m := 1)
          have S := Lib.hid (Shift_pos x k 1 hk62 (by omega) (by omega) (by omega) (by omega))
          rw [ey] at S
          clear ey
          have yb : -1152921504606846976 ≤ y ∧ y ≤ 1152921504606846976 := by
            have := hq.out; omega
          have wy : IntKind.i64.wrap (y * 2 ^ k) = y * 2 ^ k := IntWalk.i64_in _ (by omega)
          have wl : IntKind.i64.wrap (x - y * 2 ^ k) = l := by rw [el]; exact IntWalk.i64_in _ (by omega)
          have a1 : decide (1152921504606846976 < y) = false := decide_eq_false (by omega)
          have a2 : decide (y < -1152921504606846976) = false := decide_eq_false (by omega)
          have a3 : decide (x / 2 ^ k + 2 < y) = false := decide_eq_false (by omega)
          have a4 : decide (y < x / 2 ^ k - 2) = false := decide_eq_false (by omega)
          have b1 : decide (0 ≤ l) = true := decide_eq_true (by have := m1 rfl; omega)
          have b2 : decide (l < 2 ^ k) = true := decide_eq_true (by have := m1 rfl; omega)
          clear el eyl yq lb y0 m0 m1 m23 yb
          go_wp2_with fail
          (with_reducible refine (S.out _).mono ?_)
          rintro e w2 ⟨rfl, hb2⟩
          have B2 := below_call B hb2
          go_wp2_with fail
          exact ⟨⟨2, by omega, by go_num, B2⟩, by simp [intOf]⟩
        · obtain ⟨y, l, ey, el, eyl, yq, lb, y0, m0, m1, m23⟩ := lost_any x k (m := 2)
          have S := Lib.hid (Shift_pos x k 2 hk62 (by omega) (by omega) (by omega) (by omega))
          rw [ey] at S
          clear ey
          have yb : -1152921504606846976 ≤ y ∧ y ≤ 1152921504606846976 := by
            have := hq.out; omega
          have wy : IntKind.i64.wrap (y * 2 ^ k) = y * 2 ^ k := IntWalk.i64_in _ (by omega)
          have wl : IntKind.i64.wrap (x - y * 2 ^ k) = l := by rw [el]; exact IntWalk.i64_in _ (by omega)
          have a1 : decide (1152921504606846976 < y) = false := decide_eq_false (by omega)
          have a2 : decide (y < -1152921504606846976) = false := decide_eq_false (by omega)
          have a3 : decide (x / 2 ^ k + 2 < y) = false := decide_eq_false (by omega)
          have a4 : decide (y < x / 2 ^ k - 2) = false := decide_eq_false (by omega)
          have b1 : decide (2 * l ≤ 2 ^ k) = true := decide_eq_true (by have := m23 (by omega); omega)
          have b2 : decide (-2 * l ≤ 2 ^ k) = true := decide_eq_true (by have := m23 (by omega); omega)
          have b3 : IntKind.i64.wrap (2 * l) = 2 * l := IntWalk.i64_in _ (by omega)
          have b4 : IntKind.i64.wrap (-2 * l) = -2 * l := IntWalk.i64_in _ (by omega)
          have b5 : decide (-(2 * l) ≤ 2 ^ k) = true := decide_eq_true (by have := m23 (by omega); omega)
          have b6 : IntKind.i64.wrap (-(2 * l)) = -(2 * l) := IntWalk.i64_in _ (by omega)
          clear el eyl yq lb y0 m0 m1 m23 yb
          go_wp2_with fail
          (with_reducible refine (S.out _).mono ?_)
          rintro e w2 ⟨rfl, hb2⟩
          have B2 := below_call B hb2
          go_wp2_with fail
          exact ⟨⟨3, by omega, by go_num, B2⟩, by simp [intOf]⟩
        · obtain ⟨y, l, ey, el, eyl, yq, lb, y0, m0, m1, m23⟩ := lost_any x k (m := 3)
          have S := Lib.hid (Shift_pos x k 3 hk62 (by omega) (by omega) (by omega) (by omega))
          rw [ey] at S
          clear ey
          have yb : -1152921504606846976 ≤ y ∧ y ≤ 1152921504606846976 := by
            have := hq.out; omega
          have wy : IntKind.i64.wrap (y * 2 ^ k) = y * 2 ^ k := IntWalk.i64_in _ (by omega)
          have wl : IntKind.i64.wrap (x - y * 2 ^ k) = l := by rw [el]; exact IntWalk.i64_in _ (by omega)
          have a1 : decide (1152921504606846976 < y) = false := decide_eq_false (by omega)
          have a2 : decide (y < -1152921504606846976) = false := decide_eq_false (by omega)
          have a3 : decide (x / 2 ^ k + 2 < y) = false := decide_eq_false (by omega)
          have a4 : decide (y < x / 2 ^ k - 2) = false := decide_eq_false (by omega)
          have b1 : decide (2 * l ≤ 2 ^ k) = true := decide_eq_true (by have := m23 (by omega); omega)
          have b2 : decide (-2 * l ≤ 2 ^ k) = true := decide_eq_true (by have := m23 (by omega); omega)
          have b3 : IntKind.i64.wrap (2 * l) = 2 * l := IntWalk.i64_in _ (by omega)
          have b4 : IntKind.i64.wrap (-2 * l) = -2 * l := IntWalk.i64_in _ (by omega)
          have b5 : decide (-(2 * l) ≤ 2 ^ k) = true := decide_eq_true (by have := m23 (by omega); omega)
          have b6 : IntKind.i64.wrap (-(2 * l)) = -(2 * l) := IntWalk.i64_in _ (by omega)
          clear el eyl yq lb y0 m0 m1 m23 yb
          go_wp2_with fail
          (with_reducible refine (S.out _).mono ?_)
          rintro e w2 ⟨rfl, hb2⟩
          have B2 := below_call B hb2
          go_wp2_with fail
          exact ⟨⟨4, by omega, by go_num, B2⟩, by simp [intOf]⟩
        · go_wp2_with fail
          go_ret
          exact ⟨rfl, B⟩

end Go.Proofs.Ythldpmfobhemkaa
