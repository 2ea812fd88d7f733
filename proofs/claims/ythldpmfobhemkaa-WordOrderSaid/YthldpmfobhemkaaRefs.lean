/- The contracts of layer 1's reference: mode, up, Round, Shift; of Num, of awake; Shift to the left. -/
import Derived.Test.YthldpmfobhemkaaCalls
namespace Go.Proofs.Ythldpmfobhemkaa
open Go.RowKit

theorem num_any (c : Int) (w : World) : Calls Try.prog 16 #[errV c] w fun e w' => e = .returned (.int .i64 c) ∧ w = w' := by
  have hta : ∀ c w, (Instr.typeAssert (.iface 67 (.int .i64 c)) 31 67 true).run Try.prog w = .ok (.tuple #[.int .i64 c, .bool true]) w := fun _ _ => by kernel_rfl
  by_cases h : c = 0
  · subst h
    rw [errV_zero]
    go_enter Try.func16, Try.ntmps16
    go_wp2
    go_ret
    exact ⟨rfl, rfl⟩
  · unfold errV
    rw [if_neg h]
    go_enter Try.func16, Try.ntmps16
    go_wp2
    go_ret
    exact ⟨rfl, rfl⟩
theorem rmode_yes (m : Int) (h : 0 ≤ m) (h2 : m ≤ 3) (w : World) : Calls Try.prog 45 #[.int .i64 m] w fun e w' => e = .returned (.bool true) ∧ w = w' := by
  go_enter Try.func45, Try.ntmps45
  go_wp2
  go_ret
  exact ⟨rfl, rfl⟩
theorem rmode_no (m : Int) (h : m < 0 ∨ 3 < m) (w : World) : Calls Try.prog 45 #[.int .i64 m] w fun e w' => e = .returned (.bool false) ∧ w = w' := by
  by_cases h1 : 0 ≤ m
  · have h2 : 3 < m := by omega
    clear h
    go_enter Try.func45, Try.ntmps45
    go_wp2
    go_ret
    exact ⟨ret_bool (by simp; omega), rfl⟩
  · have h2 : m < 0 := by omega
    clear h h1
    go_enter Try.func45, Try.ntmps45
    go_wp2
    go_ret
    exact ⟨rfl, rfl⟩
set_option maxHeartbeats 1000000 in
theorem rup_any (q r d m : Int) (neg : Bool) (hr : 0 ≤ r) (hd : r < d) (hd2 : d ≤ 4611686018427387904) (w : World) : Calls Try.prog 52 #[.int .i64 q, .int .i64 r, .int .i64 d, .int .i64 m, .bool neg] w fun e w' => e = .returned (.bool (upR q r d m neg)) ∧ w = w' := by
  have e0 : IntKind.i64.wrap (d - r) = d - r := IntWalk.i64_in _ (by omega)
  by_cases h1 : m = 1
  · subst h1
    have E : upR q r d 1 neg = (neg && decide (0 < r)) := by
      unfold upR
      by_cases hz : r = 0
      · subst hz; simp
      · have : 0 < r := by omega
        simp [hz, this]
    rw [E]
    clear E
    cases neg
    all_goals
      go_enter Try.func52, Try.ntmps52
      go_wp2
      go_ret
      exact ⟨rfl, rfl⟩
  · by_cases h2 : m = 2
    · subst h2
      have E : upR q r d 2 neg = decide (d - r ≤ r) := by
        unfold upR
        simp only [show ((2 : Int) == 1) = false from rfl, show ((2 : Int) == 2) = true from rfl, show ((2 : Int) == 3) = false from rfl, Bool.false_and, Bool.true_and, Bool.or_false, Bool.false_or]
        congr 1
        apply propext
        omega
      rw [E]
      clear E h1
      go_enter Try.func52, Try.ntmps52
      go_wp2
      go_ret
      exact ⟨rfl, rfl⟩
    · by_cases h3 : m = 3
      · subst h3
        have tq := tspec q 2 (by decide)
        have E : (upR q r d 3 neg = true ∧ d - r < r) ∨ (¬ d - r < r ∧ ¬ r = d - r ∧ upR q r d 3 neg = false) ∨ (¬ d - r < r ∧ r = d - r ∧ upR q r d 3 neg = !(q.tmod 2 == 0)) := by
          have u := @up_iff q r d 3 neg
          by_cases a : d - r < r
          · exact .inl ⟨by rw [u]; exact .inr (.inr ⟨rfl, .inl (by omega)⟩), a⟩
          · by_cases b : r = d - r
            · refine .inr (.inr ⟨a, b, ?_⟩)
              by_cases c : q.tmod 2 = 0
              · have : ¬ upR q r d 3 neg = true := by
                  rw [u]
                  rintro (⟨h, _⟩ | ⟨h, _⟩ | ⟨_, h | ⟨_, h⟩⟩)
                  · omega
                  · omega
                  · omega
                  · omega
                simp [c, this]
              · have : upR q r d 3 neg = true := by
                  rw [u]
                  exact .inr (.inr ⟨rfl, .inr ⟨by omega, by omega⟩⟩)
                simp [c, this]
            · refine .inr (.inl ⟨a, b, ?_⟩)
              rw [← Bool.not_eq_true, u]
              rintro (⟨h, _⟩ | ⟨h, _⟩ | ⟨_, h | ⟨h, _⟩⟩) <;> omega
        clear h1 h2 tq
        rcases E with ⟨E, a⟩ | ⟨a, b, E⟩ | ⟨a, b, E⟩
        · rw [E]
          clear E
          go_enter Try.func52, Try.ntmps52
          go_wp2
          go_ret
          exact ⟨rfl, rfl⟩
        · rw [E]
          clear E
          have b2 : (r == d - r) = false := by simp [b]
          have a2 : decide (d - r < r) = false := decide_eq_false a
          go_enter Try.func52, Try.ntmps52
          go_wp2
          go_ret
          exact ⟨rfl, rfl⟩
        · rw [E]
          clear E
          have b2 : (r == d - r) = true := by simp [← b]
          have a2 : decide (d - r < r) = false := decide_eq_false a
          have B := Lib.hid b
          clear b
          go_enter Try.func52, Try.ntmps52
          go_wp2
          go_ret
          exact ⟨rfl, rfl⟩
      · have E : upR q r d m neg = false := by unfold upR; simp [h1, h2, h3]
        rw [E]
        clear E
        have b1 : (m == 1) = false := by simp [h1]
        have b2 : (m == 2) = false := by simp [h2]
        have b3 : (m == 3) = false := by simp [h3]
        go_enter Try.func52, Try.ntmps52
        go_wp2
        go_ret
        exact ⟨rfl, rfl⟩
set_option maxHeartbeats 1000000 in
theorem Round_any (x : Int) (n : Nat) (m : Int) (hn : n ≤ 62) (hx : -9223372036854775808 ≤ x) (hx2 : x ≤ 9223372036854775807) (w : World) : Calls Try.prog 46 #[.int .i64 x, .int .i64 n, .int .i64 m] w fun e w' => e = .returned (.int .i64 (rnd x n m)) ∧ w = w' := by
  have hp := p2 n
  have h62 := p2_le hn
  have l62 : (2 : Int) ^ 62 = 4611686018427387904 := by decide
  have a := qr x n
  have RE := Lib.hid (rnd_eq x n m)
  have hq := q_le (x := x) (B := 9223372036854775808) n (by decide) hx (by omega)
  have UP := Lib.hid (rup_any (x / 2 ^ n) (x % 2 ^ n) (2 ^ n) m (decide (x < 0)) a.2.1 a.2.2 (by omega))
  have dv : (2 : Int) ^ 62 = 2 ^ n * 2 ^ (62 - n) := by rw [← Int.pow_add]; congr 1; omega
  have low : -9223372036854775808 ≤ x / 2 ^ n * 2 ^ n := by
    have h1 : (-9223372036854775808 : Int) = (-2 * 2 ^ (62 - n)) * 2 ^ n := by rw [Int.mul_assoc, Int.mul_comm (2 ^ (62 - n)), ← dv, l62]; rfl
    have h2 : -2 * 2 ^ (62 - n) ≤ x / 2 ^ n := by
      rw [Int.le_ediv_iff_mul_le (by omega), ← h1]
      exact hx
    rw [h1]
    exact Int.mul_le_mul_of_nonneg_right h2 (by omega)
  have mc : x / 2 ^ n * 2 ^ n = 2 ^ n * (x / 2 ^ n) := Int.mul_comm _ _
  have w0 : IntKind.i64.wrap (x / 2 ^ n * 2 ^ n) = x / 2 ^ n * 2 ^ n := IntWalk.i64_in _ (by omega)
  have r0 : x - x / 2 ^ n * 2 ^ n = x % 2 ^ n := by omega
  have w1 : IntKind.i64.wrap (x % 2 ^ n) = x % 2 ^ n := IntWalk.i64_in _ (by omega)
  have w2 : IntKind.i64.wrap (2 ^ n) = 2 ^ n := IntWalk.i64_in _ (by omega)
  have w3 : IntKind.i64.wrap (1 * 2 ^ n) = 2 ^ n := by rw [Int.one_mul]; exact w2
  have hs0 : (0 : Int) ≤ (n : Int) := Int.natCast_nonneg _
  have hs1 : (n : Int) ≤ 64 := by omega
  have two : (upR (x / 2 ^ n) (x % 2 ^ n) (2 ^ n) m (decide (x < 0)) = true ∧ rnd x n m = x / 2 ^ n + 1 ∧ x / 2 ^ n + 1 ≤ 9223372036854775807) ∨ (upR (x / 2 ^ n) (x % 2 ^ n) (2 ^ n) m (decide (x < 0)) = false ∧ rnd x n m = x / 2 ^ n) := by
    rcases RE.out with ⟨u, e⟩ | ⟨u, e⟩
    · refine .inl ⟨u, e, ?_⟩
      rcases rnd_near x n m with h | ⟨h, h0⟩
      · omega
      · by_cases h1 : n = 0
        · subst h1
          simp at h0
        · have h2 : (2 : Int) ≤ 2 ^ n := by
            have := p2_le (show 1 ≤ n by omega)
            simpa using this
          have h3 : x / 2 ^ n * 2 ≤ x ∨ x / 2 ^ n < 0 := by
            by_cases g : x / 2 ^ n < 0
            · exact .inr g
            · have := Int.mul_le_mul_of_nonneg_left h2 (show 0 ≤ x / 2 ^ n by omega)
              exact .inl (by omega)
          omega
    · exact .inr ⟨by rw [← Bool.not_eq_true]; exact u, e⟩
  clear a hq low mc dv
  rcases two with ⟨u, e, hle⟩ | ⟨u, e⟩
  · have UP := UP.out
    rw [u] at UP
    have UP := Lib.hid UP
    have w4 : IntKind.i64.wrap (x / 2 ^ n + 1) = x / 2 ^ n + 1 := IntWalk.i64_in _ (by have := q_le (x := x) (B := 9223372036854775808) n (by decide) hx (by omega); omega)
    have e := Lib.hid e
    clear u RE
    go_enter Try.func46, Try.ntmps46
    go_wp2_with fail
    (with_reducible refine (UP.out _).mono ?_)
    rintro e' w' ⟨rfl, rfl⟩
    go_wp2_with fail
    go_ret
    exact ⟨ret_int e.out.symm, rfl⟩
  · have UP := UP.out
    rw [u] at UP
    have UP := Lib.hid UP
    have e := Lib.hid e
    clear u RE
    go_enter Try.func46, Try.ntmps46
    go_wp2_with fail
    (with_reducible refine (UP.out _).mono ?_)
    rintro e' w' ⟨rfl, rfl⟩
    go_wp2_with fail
    go_ret
    exact ⟨ret_int e.out.symm, rfl⟩

set_option maxHeartbeats 1000000 in
theorem rShift_no (x n m : Int) (h : ¬ ((-62 ≤ n ∧ n ≤ 62) ∧ 0 ≤ m ∧ m ≤ 3)) (w : World) : Calls Try.prog 19 #[.int .i64 x, .int .i64 n, .int .i64 m] w fun e w' => e = .returned (.tuple #[.int .i64 0, .int .i64 3]) ∧ w = w' := by
  by_cases h1 : n < -62
  · go_enter Try.func19, Try.ntmps19
    go_wp2_with fail
    refine bodyPost_ret (v := .tuple #[.int .i64 0, .int .i64 3]) ?_ rfl ⟨rfl, ?_⟩
    · simp [results, Try.results19, go_sem]
    · exact rfl
  · by_cases h2 : 62 < n
    · go_enter Try.func19, Try.ntmps19
      go_wp2_with fail
      refine bodyPost_ret (v := .tuple #[.int .i64 0, .int .i64 3]) ?_ rfl ⟨rfl, ?_⟩
      · simp [results, Try.results19, go_sem]
      · exact rfl
    · have h3 : m < 0 ∨ 3 < m := by omega
      clear h
      go_enter Try.func19, Try.ntmps19
      go_wp2_with fail
      (with_reducible refine (rmode_no _ h3 _).mono ?_)
      rintro e w' ⟨rfl, rfl⟩
      go_wp2_with fail
      refine bodyPost_ret (v := .tuple #[.int .i64 0, .int .i64 3]) ?_ rfl ⟨rfl, ?_⟩
      · simp [results, Try.results19, go_sem]
      · exact rfl

set_option maxHeartbeats 1000000 in
theorem rShift_pos (x : Int) (n : Nat) (m : Int) (hn : n ≤ 62) (hm : 0 ≤ m) (hm2 : m ≤ 3) (hx : -9223372036854775808 ≤ x) (hx2 : x ≤ 9223372036854775807) (w : World) : Calls Try.prog 19 #[.int .i64 x, .int .i64 n, .int .i64 m] w fun e w' => e = .returned (.tuple #[.int .i64 (rnd x n m), .int .i64 0]) ∧ w = w' := by
  have hs0 : (0 : Int) ≤ (n : Int) := Int.natCast_nonneg _
  have hs1 : (n : Int) ≤ 62 := by omega
  go_enter Try.func19, Try.ntmps19
  go_wp2_with fail
  (with_reducible refine (rmode_yes _ hm hm2 _).mono ?_)
  rintro e w' ⟨rfl, rfl⟩
  go_wp2_with fail
  (with_reducible refine (Round_any x n m hn hx hx2 _).mono ?_)
  rintro e w' ⟨rfl, rfl⟩
  go_wp2_with fail
  refine bodyPost_ret (v := .tuple #[.int .i64 (rnd x n m), .int .i64 0]) ?_ rfl ⟨rfl, ?_⟩
  · simp [results, Try.results19, go_sem]
  · exact rfl

end Go.Proofs.Ythldpmfobhemkaa
