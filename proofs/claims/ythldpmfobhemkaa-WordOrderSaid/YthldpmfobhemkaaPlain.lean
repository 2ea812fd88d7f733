/- Layer 1 (word) in plain Lean: rounding, bounds, saturation. No program in sight. -/
import Derived.Test.YthldpmfobhemkaaBase
namespace Go.Proofs.Ythldpmfobhemkaa
open Go.RowKit

/-- Is a quotient with floor q and remainder r by d rounded up? -/
def upR (q r d m : Int) (neg : Bool) : Bool := (m == 1 && (neg && !(r == 0))) || (m == 2 && decide (d ≤ 2 * r)) || (m == 3 && (decide (d < 2 * r) || (d == 2 * r && q % 2 == 1)))
/-- x / 2^n, rounded. -/
def rnd (x : Int) (n : Nat) (m : Int) : Int := if upR (x / 2 ^ n) (x % 2 ^ n) (2 ^ n) m (decide (x < 0)) then x / 2 ^ n + 1 else x / 2 ^ n
theorem p2 (n : Nat) : (1 : Int) ≤ 2 ^ n := by
  have : 0 < (2 : Int) ^ n := Int.pow_pos (by decide)
  omega
theorem p2_succ (n : Nat) : (2 : Int) ^ (n + 1) = 2 * 2 ^ n := by rw [Int.pow_succ]; omega
theorem p2_le {a b : Nat} (h : a ≤ b) : (2 : Int) ^ a ≤ 2 ^ b := by
  have := Nat.pow_le_pow_right (show 0 < 2 by decide) h
  have e : ∀ k : Nat, ((2 ^ k : Nat) : Int) = (2 : Int) ^ k := fun k => by push_cast; rfl
  rw [← e, ← e]
  exact Int.ofNat_le.2 this
/-- Quotient and remainder by a power of 2. -/
theorem qr (x : Int) (n : Nat) : 2 ^ n * (x / 2 ^ n) + x % 2 ^ n = x ∧ 0 ≤ x % 2 ^ n ∧ x % 2 ^ n < 2 ^ n := by
  have h := p2 n
  exact ⟨Int.mul_ediv_add_emod x _, Int.emod_nonneg _ (by omega), Int.emod_lt_of_pos _ (by omega)⟩
theorem q_le {x B : Int} (n : Nat) (hB : 0 ≤ B) (h : -B ≤ x) (h2 : x ≤ B) : -B ≤ x / 2 ^ n ∧ x / 2 ^ n ≤ B := by
  have hp := p2 n
  have a := qr x n
  constructor
  · rw [Int.le_ediv_iff_mul_le (by omega)]
    have : B * 1 ≤ B * 2 ^ n := Int.mul_le_mul_of_nonneg_left hp hB
    have e : -B * 2 ^ n = -(B * 2 ^ n) := Int.neg_mul _ _
    omega
  · have h3 := Int.ediv_le_ediv (show (0 : Int) < 2 ^ n by omega) h2
    have h4 := Int.ediv_le_self (2 ^ n) hB
    omega
theorem rnd_zero (x m : Int) : rnd x 0 m = x := by
  unfold rnd upR
  simp only [Int.pow_zero, Int.ediv_one, Int.emod_one]
  rw [if_neg]
  simp
/-- What rounding loses. -/
theorem rnd_near (x : Int) (n : Nat) (m : Int) : rnd x n m = x / 2 ^ n ∨ (rnd x n m = x / 2 ^ n + 1 ∧ 0 < x % 2 ^ n) := by
  have a := qr x n
  have hp := p2 n
  unfold rnd
  split
  · rename_i h
    refine .inr ⟨rfl, ?_⟩
    unfold upR at h
    simp only [Bool.or_eq_true, Bool.and_eq_true, beq_iff_eq, decide_eq_true_eq, Bool.not_eq_true', beq_eq_false_iff_ne, ne_eq] at h
    rcases h with (⟨_, _, h⟩ | ⟨_, h⟩) | ⟨_, h | ⟨h, _⟩⟩ <;> omega
  · exact .inl rfl

theorem up_iff {q r d m : Int} {neg : Bool} : upR q r d m neg = true ↔ (m = 1 ∧ neg = true ∧ ¬ r = 0) ∨ (m = 2 ∧ d ≤ 2 * r) ∨ (m = 3 ∧ (d < 2 * r ∨ (d = 2 * r ∧ q % 2 = 1))) := by
  unfold upR
  simp only [Bool.or_eq_true, Bool.and_eq_true, beq_iff_eq, decide_eq_true_eq, Bool.not_eq_true', beq_eq_false_iff_ne, ne_eq]
  constructor
  · rintro ((h | h) | h)
    · exact .inl h
    · exact .inr (.inl h)
    · exact .inr (.inr h)
  · rintro (h | h | h)
    · exact .inl (.inl h)
    · exact .inl (.inr h)
    · exact .inr h
theorem rnd_eq (x : Int) (n : Nat) (m : Int) : ((upR (x / 2 ^ n) (x % 2 ^ n) (2 ^ n) m (decide (x < 0)) = true) ∧ rnd x n m = x / 2 ^ n + 1) ∨ (¬ (upR (x / 2 ^ n) (x % 2 ^ n) (2 ^ n) m (decide (x < 0)) = true) ∧ rnd x n m = x / 2 ^ n) := by
  unfold rnd
  split
  · rename_i h; exact .inl ⟨h, rfl⟩
  · rename_i h; exact .inr ⟨h, rfl⟩
theorem neg_q (x : Int) (n : Nat) : x < 0 ↔ x / 2 ^ n < 0 := by
  have hp := p2 n
  have h := qr x n
  constructor
  · intro h0
    rcases Int.lt_or_le (x / 2 ^ n) 0 with h1 | h1
    · exact h1
    · have := Int.mul_nonneg (show (0 : Int) ≤ 2 ^ n by omega) h1
      omega
  · intro h0
    have h1 : (2 : Int) ^ n * (x / 2 ^ n) ≤ 2 ^ n * (-1) := Int.mul_le_mul_of_nonneg_left (by omega) (by omega)
    omega
/-- A greater number is not rounded to less. -/
theorem rnd_mono {x y : Int} (h : x ≤ y) (n : Nat) (m : Int) : rnd x n m ≤ rnd y n m := by
  have hp := p2 n
  have hx := qr x n
  have hy := qr y n
  have hq := Int.ediv_le_ediv (show (0 : Int) < 2 ^ n by omega) h
  have nx := neg_q x n
  have ny := neg_q y n
  rcases rnd_eq x n m with ⟨ux, ex⟩ | ⟨ux, ex⟩ <;> rcases rnd_eq y n m with ⟨uy, ey⟩ | ⟨uy, ey⟩
  · omega
  · by_cases e : x / 2 ^ n = y / 2 ^ n
    · exfalso
      apply uy
      rw [up_iff] at ux ⊢
      rw [e] at hx ux nx
      have hr : x % 2 ^ n ≤ y % 2 ^ n := by omega
      simp only [decide_eq_true_eq] at ux ⊢
      rcases ux with ⟨a, b, c⟩ | ⟨a, b⟩ | ⟨a, b | ⟨b, c⟩⟩
      · exact .inl ⟨a, by omega, by omega⟩
      · exact .inr (.inl ⟨a, by omega⟩)
      · exact .inr (.inr ⟨a, .inl (by omega)⟩)
      · by_cases g : x % 2 ^ n = y % 2 ^ n
        · exact .inr (.inr ⟨a, .inr ⟨by omega, c⟩⟩)
        · exact .inr (.inr ⟨a, .inl (by omega)⟩)
    · omega
  · omega
  · omega
/-- The modes that are symmetric about 0. -/
theorem rnd_neg (x : Int) (n : Nat) {m : Int} (hm : m = 1 ∨ m = 3) : rnd (-x) n m = -rnd x n m := by
  have hp := p2 n
  have hx := qr x n
  have hy := qr (-x) n
  have nx := neg_q x n
  have ny := neg_q (-x) n
  have key : (x % 2 ^ n = 0 ∧ (-x) % 2 ^ n = 0 ∧ (-x) / 2 ^ n = -(x / 2 ^ n)) ∨ (0 < x % 2 ^ n ∧ (-x) % 2 ^ n = 2 ^ n - x % 2 ^ n ∧ (-x) / 2 ^ n = -(x / 2 ^ n) - 1) := by
    by_cases h0 : x % 2 ^ n = 0
    · have e : -x = -(x / 2 ^ n) * 2 ^ n := by rw [Int.neg_mul, Int.mul_comm]; omega
      exact .inl ⟨h0, by rw [e]; exact Int.mul_emod_left _ _, by rw [e]; exact Int.mul_ediv_cancel _ (by omega)⟩
    · have e : -x = (2 ^ n - x % 2 ^ n) + (-(x / 2 ^ n) - 1) * 2 ^ n := by
        rw [Int.sub_mul, Int.neg_mul, Int.mul_comm (x / 2 ^ n)]
        omega
      refine .inr ⟨by omega, ?_, ?_⟩
      · rw [e, Int.add_mul_emod_self_right, Int.emod_eq_of_lt (by omega) (by omega)]
      · rw [e, Int.add_mul_ediv_right _ _ (by omega), Int.ediv_eq_zero_of_lt (by omega) (by omega)]
        omega
  have ux := @up_iff (x / 2 ^ n) (x % 2 ^ n) (2 ^ n) m (decide (x < 0))
  have uy := @up_iff ((-x) / 2 ^ n) ((-x) % 2 ^ n) (2 ^ n) m (decide (-x < 0))
  simp only [decide_eq_true_eq] at ux uy
  have e1 := rnd_eq x n m
  have e2 := rnd_eq (-x) n m
  rw [ux] at e1
  rw [uy] at e2
  clear ux uy
  generalize rnd x n m = A at *
  generalize rnd (-x) n m = B at *
  rcases key with ⟨k0, k1, k2⟩ | ⟨k0, k1, k2⟩
  · rw [k1, k2] at e2
    rw [k0] at e1
    generalize x / 2 ^ n = q at *
    omega
  · rw [k1, k2] at e2
    rw [k2] at ny
    generalize x / 2 ^ n = q at *
    generalize x % 2 ^ n = r at *
    generalize (2 : Int) ^ n = d at *
    omega

/-- The bound of a format's words. -/
def halfF (b : Int) : Int := 2 ^ (b.toNat - 1)
def okF (b s : Int) : Prop := 2 ≤ b ∧ b ≤ 32 ∧ -64 ≤ s ∧ s ≤ 64
def satV (b x : Int) : Int := max (-(halfF b)) (min x (halfF b - 1))
def satB (b x : Int) : Bool := !(satV b x == x)
theorem halfF_le {b : Int} (h : 2 ≤ b) (h2 : b ≤ 32) : 2 ≤ halfF b ∧ halfF b ≤ 2147483648 := by
  unfold halfF
  have h3 := p2_le (show 1 ≤ b.toNat - 1 by omega)
  have h4 := p2_le (show b.toNat - 1 ≤ 31 by omega)
  have e : (2 : Int) ^ 31 = 2147483648 := by decide
  have e1 : (2 : Int) ^ 1 = 2 := by decide
  omega
end Go.Proofs.Ythldpmfobhemkaa
