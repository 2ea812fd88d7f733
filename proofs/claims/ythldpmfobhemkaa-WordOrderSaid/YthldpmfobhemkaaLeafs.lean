/- The contracts of layer 1's small functions. -/
import Derived.Test.YthldpmfobhemkaaPlain
import Derived.Deep.QuietTactic
import Derived.BigQuiet
import Derived.Deep.RegionHeld3
namespace Go.Proofs.Ythldpmfobhemkaa
open Go.RowKit

theorem within_yes (n lo hi : Int) (h : lo ≤ n) (h2 : n ≤ hi) (w : World) : Calls Try.prog 37 #[.int .i64 n, .int .i64 lo, .int .i64 hi] w fun e w' => e = .returned (.bool true) ∧ w = w' := by
  go_enter Try.func37, Try.ntmps37
  go_wp2
  go_ret
  exact ⟨rfl, rfl⟩

theorem within_no (n lo hi : Int) (h : n < lo ∨ hi < n) (w : World) : Calls Try.prog 37 #[.int .i64 n, .int .i64 lo, .int .i64 hi] w fun e w' => e = .returned (.bool false) ∧ w = w' := by
  by_cases h1 : lo ≤ n
  · have h2 : hi < n := by omega
    clear h
    go_enter Try.func37, Try.ntmps37
    go_wp2
    go_ret
    exact ⟨ret_bool (by simp; omega), rfl⟩
  · have h2 : n < lo := by omega
    clear h h1
    go_enter Try.func37, Try.ntmps37
    go_wp2
    go_ret
    exact ⟨rfl, rfl⟩

set_option maxHeartbeats 400000 in
theorem Check_yes (b s : Int) (h : okF b s) (w : World) : Calls Try.prog 26 #[.agg #[.int .i64 b, .int .i64 s]] w fun e w' => e = .returned .nilIface ∧ Below w.heap.size w w' := by
  obtain ⟨h1, h2, h3, h4⟩ := h
  go_enter Try.func26, Try.ntmps26
  go_wp2_with (go_at_call 37; (with_reducible refine (within_yes _ _ _ (by omega) (by omega) _).mono ?_); rintro e w' ⟨rfl, rfl⟩)
  go_ret
  exact ⟨rfl, below_box (Below.refl _ _) _⟩
set_option maxHeartbeats 400000 in
theorem Check_no (b s : Int) (h : ¬ okF b s) (w : World) : Calls Try.prog 26 #[.agg #[.int .i64 b, .int .i64 s]] w fun e w' => e = .returned (.iface 67 (.int .i64 3)) ∧ Below w.heap.size w w' := by
  have two : (b < 2 ∨ 32 < b) ∨ ((2 ≤ b ∧ b ≤ 32) ∧ (s < -64 ∨ 64 < s)) := by unfold okF at h; omega
  clear h
  rcases two with h1 | ⟨⟨h1, h2⟩, h3⟩
  all_goals
    go_enter Try.func26, Try.ntmps26
    go_wp2_with (first
      | (go_at_call 37; (with_reducible refine (within_no b _ _ (by omega) _).mono ?_); rintro e w' ⟨rfl, rfl⟩)
      | (go_at_call 37; (with_reducible refine (within_yes b _ _ (by omega) (by omega) _).mono ?_); rintro e w' ⟨rfl, rfl⟩)
      | (go_at_call 37; (with_reducible refine (within_no s _ _ (by omega) _).mono ?_); rintro e w' ⟨rfl, rfl⟩))
    go_ret
    exact ⟨rfl, below_box (Below.refl _ _) _⟩

set_option maxHeartbeats 400000 in
theorem limits_any (b s : Int) (h : 2 ≤ b) (h2 : b ≤ 32) (w : World) : Calls Try.prog 49 #[.agg #[.int .i64 b, .int .i64 s]] w fun e w' => e = .returned (.tuple #[.int .i64 (-(halfF b)), .int .i64 (halfF b - 1)]) ∧ Below w.heap.size w w' := by
  have hh := halfF_le h h2
  have hd : (2 : Int) ^ (b.toNat - 1) = halfF b := rfl
  have e0 : IntKind.i64.wrap (halfF b) = halfF b := IntWalk.i64_in _ (by omega)
  have e1 : IntKind.i64.wrap (-(halfF b)) = -(halfF b) := IntWalk.i64_in _ (by omega)
  have e2 : IntKind.i64.wrap (halfF b - 1) = halfF b - 1 := IntWalk.i64_in _ (by omega)
  go_enter Try.func49, Try.ntmps49
  go_wp2
  go_ret2
  exact ⟨rfl, below_box (Below.refl _ _) _⟩

/-- Is x a word of a format with half h? -/
def isW (b x : Int) : Bool := decide (-(halfF b) ≤ x) && decide (x ≤ halfF b - 1)
theorem isW_iff {b x : Int} : isW b x = true ↔ -(halfF b) ≤ x ∧ x ≤ halfF b - 1 := by unfold isW; simp
set_option maxHeartbeats 400000 in
theorem is_any (b s x : Int) (h : 2 ≤ b) (h2 : b ≤ 32) (w : World) : Calls Try.prog 39 #[.agg #[.int .i64 b, .int .i64 s], .int .i64 x] w fun e w' => e = .returned (.bool (isW b x)) ∧ Below w.heap.size w w' := by
  have LI := Lib.hid (limits_any b s h h2)
  by_cases hx : isW b x = true
  · rw [hx]
    rw [isW_iff] at hx
    generalize halfF b = t at *
    go_enter Try.func39, Try.ntmps39
    go_wp2_with fail
    (with_reducible refine (LI.out _).mono ?_)
    rintro e w1 ⟨rfl, hb1⟩
    go_wp2_with (go_at_call 37; (with_reducible refine (within_yes _ _ _ (by omega) (by omega) _).mono ?_); rintro e w' ⟨rfl, rfl⟩)
    go_ret
    exact ⟨rfl, below_call (below_box (Below.refl w.heap.size w) _) hb1⟩
  · rw [Bool.eq_false_iff.2 hx]
    rw [isW_iff] at hx
    generalize halfF b = t at *
    go_enter Try.func39, Try.ntmps39
    go_wp2_with fail
    (with_reducible refine (LI.out _).mono ?_)
    rintro e w1 ⟨rfl, hb1⟩
    go_wp2_with (go_at_call 37; (with_reducible refine (within_no _ _ _ (by omega) _).mono ?_); rintro e w' ⟨rfl, rfl⟩)
    go_ret
    exact ⟨rfl, below_call (below_box (Below.refl w.heap.size w) _) hb1⟩
set_option maxHeartbeats 400000 in
theorem saturate_any (b s x : Int) (h : 2 ≤ b) (h2 : b ≤ 32) (w : World) : Calls Try.prog 41 #[.agg #[.int .i64 b, .int .i64 s], .int .i64 x] w fun e w' => e = .returned (.tuple #[.int .i64 (satV b x), .bool (satB b x)]) ∧ Below w.heap.size w w' := by
  have LI := Lib.hid (limits_any b s h h2)
  have hs : satV b x = max (-(halfF b)) (min x (halfF b - 1)) := rfl
  have hB : satB b x = !(max (-(halfF b)) (min x (halfF b - 1)) == x) := rfl
  rw [hs, hB]
  clear hs hB
  generalize halfF b = t at *
  go_enter Try.func41, Try.ntmps41
  go_wp2_with fail
  (with_reducible refine (LI.out _).mono ?_)
  rintro e w1 ⟨rfl, hb1⟩
  go_wp2_with fail
  go_ret2
  exact ⟨rfl, below_call (below_box (Below.refl w.heap.size w) _) hb1⟩

theorem mode_yes (m : Int) (h : 0 ≤ m) (h2 : m ≤ 3) (w : World) : Calls Try.prog 38 #[.int .i64 m] w fun e w' => e = .returned (.bool true) ∧ w = w' := by
  go_enter Try.func38, Try.ntmps38
  go_wp2_with (go_at_call 37; (with_reducible refine (within_yes _ _ _ (by omega) (by omega) _).mono ?_); rintro e w' ⟨rfl, rfl⟩)
  go_ret
  exact ⟨rfl, rfl⟩
theorem mode_no (m : Int) (h : m < 0 ∨ 3 < m) (w : World) : Calls Try.prog 38 #[.int .i64 m] w fun e w' => e = .returned (.bool false) ∧ w = w' := by
  go_enter Try.func38, Try.ntmps38
  go_wp2_with (go_at_call 37; (with_reducible refine (within_no _ _ _ (by omega) _).mono ?_); rintro e w' ⟨rfl, rfl⟩)
  go_ret
  exact ⟨rfl, rfl⟩

def cmpI (a b : Int) : Int := if a < b then -1 else if b < a then 1 else 0
theorem compare_any (a b : Int) (w : World) : Calls Try.prog 51 #[.int .i64 a, .int .i64 b] w fun e w' => e = .returned (.int .i64 (cmpI a b)) ∧ w = w' := by
  by_cases h : a < b
  · have e : cmpI a b = -1 := by unfold cmpI; rw [if_pos h]
    rw [e]
    clear e
    go_enter Try.func51, Try.ntmps51
    go_wp2
    go_ret
    exact ⟨rfl, rfl⟩
  · by_cases h2 : b < a
    · have e : cmpI a b = 1 := by unfold cmpI; rw [if_neg h, if_pos h2]
      rw [e]
      clear e
      go_enter Try.func51, Try.ntmps51
      go_wp2
      go_ret
      exact ⟨rfl, rfl⟩
    · have e : cmpI a b = 0 := by unfold cmpI; rw [if_neg h, if_neg h2]
      rw [e]
      clear e
      go_enter Try.func51, Try.ntmps51
      go_wp2
      go_ret
      exact ⟨rfl, rfl⟩
/-- What 'up' answers. -/
def upP (neg ex odd : Bool) (t m : Int) : Bool := if m = 1 then neg && !ex else if m = 2 then decide (0 ≤ t) else if m = 3 then (decide (0 < t) || (t == 0 && odd)) else false
theorem up_any (neg ex odd : Bool) (t m : Int) (w : World) : Calls Try.prog 50 #[.bool neg, .bool ex, .bool odd, .int .i64 t, .int .i64 m] w fun e w' => e = .returned (.bool (upP neg ex odd t m)) ∧ w = w' := by
  unfold upP
  by_cases h1 : m = 1
  · subst h1
    rw [if_pos rfl]
    cases neg <;> cases ex
    all_goals
      go_enter Try.func50, Try.ntmps50
      go_wp2
      go_ret
      exact ⟨rfl, rfl⟩
  · rw [if_neg h1]
    by_cases h2 : m = 2
    · subst h2
      rw [if_pos rfl]
      clear h1
      go_enter Try.func50, Try.ntmps50
      go_wp2
      go_ret
      exact ⟨rfl, rfl⟩
    · rw [if_neg h2]
      by_cases h3 : m = 3
      · subst h3
        rw [if_pos rfl]
        clear h1 h2
        by_cases ht : 0 < t
        · go_enter Try.func50, Try.ntmps50
          go_wp2
          go_ret
          exact ⟨ret_bool (by simp [ht]), rfl⟩
        · by_cases hz : t = 0
          · subst hz
            go_enter Try.func50, Try.ntmps50
            go_wp2
            go_ret
            exact ⟨ret_bool (by simp), rfl⟩
          · go_enter Try.func50, Try.ntmps50
            go_wp2
            go_ret
            exact ⟨ret_bool (by simp [ht, hz]), rfl⟩
      · rw [if_neg h3]
        have b1 : (m == 1) = false := by simp [h1]
        have b2 : (m == 2) = false := by simp [h2]
        have b3 : (m == 3) = false := by simp [h3]
        go_enter Try.func50, Try.ntmps50
        go_wp2
        go_ret
        exact ⟨rfl, rfl⟩

theorem up_same (x q r D m : Int) : upP (decide (x < 0)) (r == 0) (q % 2 == 1) (cmpI r D) m = upR q r (2 * D) m (decide (x < 0)) := by
  unfold upP upR cmpI
  by_cases h1 : m = 1
  · subst h1; simp
  · by_cases h2 : m = 2
    · subst h2
      simp only [show ((2 : Int) == 1) = false from rfl, show ((2 : Int) == 2) = true from rfl, show ((2 : Int) == 3) = false from rfl, Bool.false_and, Bool.true_and, Bool.or_false, Bool.false_or, show ¬ (2 : Int) = 1 by decide, if_false, if_true]
      congr 1
      apply propext
      split
      · omega
      · split <;> omega
    · by_cases h3 : m = 3
      · subst h3
        simp only [show ((3 : Int) == 1) = false from rfl, show ((3 : Int) == 2) = false from rfl, show ((3 : Int) == 3) = true from rfl, Bool.false_and, Bool.true_and, Bool.false_or, show ¬ (3 : Int) = 1 by decide, show ¬ (3 : Int) = 2 by decide, if_false, if_true]
        by_cases a : r < D
        · have b : ¬ 2 * D < 2 * r := by omega
          have c : ¬ 2 * D = 2 * r := by omega
          simp [a, c]
          omega
        · by_cases b : D < r
          · simp [a, b]
          · have c : r = D := by omega
            subst c
            simp
      · simp [h1, h2, h3]
set_option maxHeartbeats 1000000 in
theorem right_any (x : Int) (n : Nat) (m : Int) (hn : n ≤ 62) (hx : -9223372036854775808 ≤ x) (hx2 : x ≤ 9223372036854775807) (w : World) : Calls Try.prog 44 #[.int .i64 x, .int .i64 n, .int .i64 m] w fun e w' => e = .returned (.int .i64 (rnd x n m)) ∧ ∃ j, w' = w.drewN j := by
  match n, hn with
  | 0, _ =>
    rw [rnd_zero]
    go_enter Try.func44, Try.ntmps44
    go_wp2_with fail
    go_ret
    exact ⟨rfl, 0, rfl⟩
  | k + 1, hn =>
    have hD := p2 k
    have h2 := p2_succ k
    have h62 := p2_le hn
    have l62 : (2 : Int) ^ 62 = 4611686018427387904 := by decide
    have a := qr x (k + 1)
    have RE := Lib.hid (rnd_eq x (k + 1) m)
    have US := Lib.hid (up_same x (x / 2 ^ (k + 1)) (x % 2 ^ (k + 1)) (2 ^ k) m)
    have US := US.out
    rw [← h2] at US
    have em := bits_mask (k + 1) (by omega) x
    have eo : bits .and .i64 (x / 2 ^ (k + 1)) 1 = x / 2 ^ (k + 1) % 2 := by
      have := bits_mask 1 (by decide) (x / 2 ^ (k + 1))
      simpa using this
    have hz : ((((k + 1 : Nat) : Int)) == 0) = false := by simp; omega
    have ht : ((k + 1 : Nat) : Int).toNat = k + 1 := rfl
    have e4 : IntKind.i64.wrap (((k + 1 : Nat) : Int) - 1) = (k : Int) := by
      have : ((k + 1 : Nat) : Int) - 1 = k := by push_cast; omega
      rw [this]
      exact IntWalk.i64_in _ (by omega)
    have hq : -4611686018427387904 ≤ x / 2 ^ (k + 1) ∧ x / 2 ^ (k + 1) ≤ 4611686018427387904 := by
      rw [h2, ← Int.ediv_ediv_of_nonneg (by decide)]
      exact q_le k (by decide) (by omega) (by omega)
    have hs0 : (0 : Int) ≤ ((k + 1 : Nat) : Int) := Int.natCast_nonneg _
    have hs1 : ((k + 1 : Nat) : Int) ≤ 64 := by omega
    have hs2 : (0 : Int) ≤ (k : Int) := Int.natCast_nonneg _
    have hs3 : (k : Int) ≤ 64 := by omega
    have w0 : IntKind.i64.wrap (2 ^ (k + 1)) = 2 ^ (k + 1) := IntWalk.i64_in _ (by omega)
    have w1 : IntKind.i64.wrap (2 ^ (k + 1) - 1) = 2 ^ (k + 1) - 1 := IntWalk.i64_in _ (by omega)
    have w2 : IntKind.i64.wrap (2 ^ k) = 2 ^ k := IntWalk.i64_in _ (by omega)
    have w3 : IntKind.i64.wrap (1 * 2 ^ (k + 1)) = 2 ^ (k + 1) := by rw [Int.one_mul]; exact w0
    have w4 : IntKind.i64.wrap (1 * 2 ^ k) = 2 ^ k := by rw [Int.one_mul]; exact w2
    have w5 : IntKind.i64.wrap (x / 2 ^ (k + 1) + 1) = x / 2 ^ (k + 1) + 1 := IntWalk.i64_in _ (by omega)
    clear h2 h62 a
    go_enter Try.func44, Try.ntmps44
    go_wp2_with fail
    go_quiet (fail)
    have US := Lib.hid US
    rcases RE.out with ⟨u, e⟩ | ⟨u, e⟩
    · rw [← US.out] at u
      have u := Lib.hid u
      have e := Lib.hid e
      go_wp2_with fail
      (with_reducible refine (compare_any _ _ _).mono ?_)
      rintro e' w' ⟨rfl, rfl⟩
      go_wp2_with fail
      (with_reducible refine (up_any _ _ _ _ _ _).mono ?_)
      rw [u.out]
      rintro e' w' ⟨rfl, rfl⟩
      go_wp2_with fail
      go_ret
      exact ⟨ret_int e.out.symm, _, rfl⟩
    · rw [← US.out, Bool.not_eq_true] at u
      have u := Lib.hid u
      have e := Lib.hid e
      go_wp2_with fail
      (with_reducible refine (compare_any _ _ _).mono ?_)
      rintro e' w' ⟨rfl, rfl⟩
      go_wp2_with fail
      (with_reducible refine (up_any _ _ _ _ _ _).mono ?_)
      rw [u.out]
      rintro e' w' ⟨rfl, rfl⟩
      go_wp2_with fail
      go_ret
      exact ⟨ret_int e.out.symm, _, rfl⟩

end Go.Proofs.Ythldpmfobhemkaa
