/- word's wide numbers: add, right; one product. -/
import Derived.Test.YthldpmfobhemkaaCalls
import Derived.Test.YthldpmfobhemkaaLaw11
import Derived.Test.YthldpmfobhemkaaKeep
namespace Go.Proofs.Ythldpmfobhemkaa
open Go.RowKit

/-- A number that does not fit 62 bits: its head, the rest of it as one bit. -/
def headR (H L : Int) : Int := if L % 4096 = 0 then bits .or .i64 (H * 1048576) (L / 4096) else bits .or .i64 (bits .or .i64 (H * 1048576) (L / 4096)) 1
def bodyR (H L : Int) : Int := bits .or .i64 (H * 4294967296) L
theorem bits_range (o : BinOp) (x y : Int) : -9223372036854775808 ≤ bits o .i64 x y ∧ bits o .i64 x y ≤ 9223372036854775807 := by
  have e : ∃ z, bits o .i64 x y = IntKind.i64.wrap z := by
    cases o
    all_goals exact ⟨_, rfl⟩
  obtain ⟨z, e⟩ := e
  rw [e, IntKind.wrap_i64]
  omega
def wideR (H L : Int) (n : Nat) (m : Int) : Int :=
  if -1073741824 ≤ H ∧ H ≤ 1073741823 then rnd (bodyR H L) n m
  else if n < 16 then (if H < 0 then -1099511627776 else 1099511627776)
  else rnd (headR H L) (n - 12) m
theorem wide_step (S p : Int) : S / 4294967296 + p / 4294967296 + (S % 4294967296 + p % 4294967296) / 4294967296 = (S + p) / 4294967296 ∧ (S % 4294967296 + p % 4294967296) % 4294967296 = (S + p) % 4294967296 := by omega
theorem body_eq {H L : Int} (h0 : 0 ≤ L) (h1 : L < 4294967296) (h2 : -1073741824 ≤ H) (h3 : H ≤ 1073741823) : bodyR H L = H * 4294967296 + L := by
  obtain ⟨c, hc⟩ : ∃ c : Nat, L = (c : Int) := ⟨L.toNat, by omega⟩
  subst hc
  obtain ⟨a, ha⟩ : ∃ a : Nat, H % 4294967296 = (a : Int) := ⟨(H % 4294967296).toNat, by omega⟩
  have e : ((H * 4294967296) % ((2 ^ 64 : Nat) : Int)).toNat = 2 ^ 32 * a := by
    have : (H * 4294967296) % ((2 ^ 64 : Nat) : Int) = ((2 ^ 32 * a : Nat) : Int) := by
      rw [show ((2 ^ 64 : Nat) : Int) = 18446744073709551616 by decide, Int.natCast_mul, show ((2 ^ 32 : Nat) : Int) = 4294967296 by decide]
      omega
    rw [this]
    exact Int.toNat_natCast _
  have hb : c < 2 ^ 32 := by omega
  show IntKind.i64.wrap ((BitVec.ofInt 64 (H * 4294967296) ||| BitVec.ofInt 64 (c : Int)).toNat : Int) = _
  rw [BitVec.toNat_or, BitVec.ofInt_natCast, BitVec.toNat_ofNat, Nat.mod_eq_of_lt (by omega : c < 2 ^ 64), BitVec.toNat_ofInt, e, ← Nat.two_pow_add_eq_or_of_lt hb a, IntKind.wrap_i64, Int.natCast_add, Int.natCast_mul, show ((2 ^ 32 : Nat) : Int) = 4294967296 by decide]
  omega
theorem one_prod {b x y : Int} (hA : 2 ≤ b) (hB : b ≤ 32) (hx : -2147483648 ≤ x ∧ x ≤ 2147483647) (hy : -2147483648 ≤ y ∧ y ≤ 2147483647) {n : Nat} (hn : n ≤ 62) (m : Int) : satV b (wideR ((x * y) / 4294967296) ((x * y) % 4294967296) n m) = satV b (rnd (x * y) n m) ∧ satB b (wideR ((x * y) / 4294967296) ((x * y) % 4294967296) n m) = satB b (rnd (x * y) n m) := by
  have hp := mul_le hx hy
  generalize x * y = p at *
  unfold wideR
  by_cases h : p / 4294967296 ≤ 1073741823
  · rw [if_pos ⟨by omega, h⟩, body_eq (by omega) (by omega) (by omega) h, show p / 4294967296 * 4294967296 + p % 4294967296 = p by omega]
    exact ⟨rfl, rfl⟩
  · have e : p = 4611686018427387904 := by omega
    subst e
    rw [if_neg (by omega)]
    by_cases h2 : n < 16
    · have a := sat_top hA hB (far_top (show n ≤ 31 by omega) m)
      have c := sat_top hA hB (show (2147483648 : Int) ≤ 1099511627776 by decide)
      rw [if_pos h2, if_neg (by decide), a.1, a.2, c.1, c.2]
      exact ⟨rfl, rfl⟩
    · rw [if_neg h2]
      have e1 : headR (4611686018427387904 / 4294967296) (4611686018427387904 % 4294967296) = 2 ^ (62 - n) * 2 ^ (n - 12) := by
        rw [← Int.pow_add, show 62 - n + (n - 12) = 50 by omega]
        decide +kernel
      have e2 : (4611686018427387904 : Int) = 2 ^ (62 - n) * 2 ^ n := by
        rw [← Int.pow_add, show 62 - n + n = 62 by omega]
        decide
      rw [e1, rnd_back]
      rw [show rnd 4611686018427387904 n m = 2 ^ (62 - n) by rw [e2]; exact rnd_back _ _ _]
      exact ⟨rfl, rfl⟩

set_option maxHeartbeats 1000000 in
theorem wadd_any (H L x : Int) (hH : -4611686018427387904 ≤ H ∧ H ≤ 4611686018427387904) (hL : 0 ≤ L ∧ L < 4294967296) (hx : -9223372036854775808 ≤ x ∧ x ≤ 9223372036854775807) (w : World) : Calls Try.prog 40 #[.agg #[.int .i64 H, .int .i64 L], .int .i64 x] w fun e w' => e = .returned (.agg #[.int .i64 (H + x / 4294967296 + (L + x % 4294967296) / 4294967296), .int .i64 ((L + x % 4294967296) % 4294967296)]) ∧ Below w.heap.size w w' := by
  obtain ⟨a, ha⟩ : ∃ a, x / 4294967296 = a := ⟨_, rfl⟩
  obtain ⟨c, hc⟩ : ∃ c, x % 4294967296 = c := ⟨_, rfl⟩
  have b1 : bits .and .i64 x 4294967295 = c := by
    have := bits_mask 32 (by decide) x
    rw [← hc]
    simpa using this
  rw [ha, hc]
  obtain ⟨d, hd⟩ : ∃ d, (L + c) / 4294967296 = d := ⟨_, rfl⟩
  obtain ⟨g, hg⟩ : ∃ g, (L + c) % 4294967296 = g := ⟨_, rfl⟩
  have b2 : bits .and .i64 (L + c) 4294967295 = g := by
    have := bits_mask 32 (by decide) (L + c)
    rw [← hg]
    simpa using this
  have w1 : IntKind.i64.wrap (H + a) = H + a := IntWalk.i64_in _ (by omega)
  have w2 : IntKind.i64.wrap (L + c) = L + c := IntWalk.i64_in _ (by omega)
  have w3 : IntKind.i64.wrap (H + a + d) = H + a + d := IntWalk.i64_in _ (by omega)
  have w4 : IntKind.i64.wrap g = g := IntWalk.i64_in _ (by omega)
  have w5 : IntKind.i64.wrap a = a := IntWalk.i64_in _ (by omega)
  have w6 : IntKind.i64.wrap c = c := IntWalk.i64_in _ (by omega)
  have w7 : IntKind.i64.wrap d = d := IntWalk.i64_in _ (by omega)
  rw [hd, hg]
  go_enter Try.func40, Try.ntmps40
  go_wp2
  refine bodyPost_ret (v := .agg #[.int .i64 (H + a + d), .int .i64 g]) ?_ rfl ⟨rfl, below_box (below_box (Below.refl w.heap.size w) _) _⟩
  simp [results, Try.results40, go_sem]
set_option maxHeartbeats 2000000 in
theorem wright_any (H L : Int) (n : Nat) (m : Int) (hn : n ≤ 62) (hH : -1099511627776 ≤ H) (hH2 : H ≤ 1099511627776) (w : World) : Calls Try.prog 42 #[.agg #[.int .i64 H, .int .i64 L], .int .i64 n, .int .i64 m] w fun e w' => e = .returned (.int .i64 (wideR H L n m)) ∧ Below w.heap.size w w' := by
  by_cases h : -1073741824 ≤ H ∧ H ≤ 1073741823
  · have e : wideR H L n m = rnd (bodyR H L) n m := by unfold wideR; rw [if_pos h]
    have RA := Lib.hid (fun w => right_any (bodyR H L) n m hn (bits_range _ _ _).1 (bits_range _ _ _).2 w)
    unfold bodyR at RA e
    rw [e]
    obtain ⟨h1, h2⟩ := h
    clear e
    go_enter Try.func42, Try.ntmps42
    go_wp2_with fail
    (with_reducible refine (within_yes _ _ _ h1 h2 _).mono ?_)
    rintro e w1 ⟨rfl, rfl⟩
    go_wp2_with fail
    (with_reducible refine (RA.out _).mono ?_)
    rintro e w1 ⟨rfl, k, rfl⟩
    go_wp2_with fail
    go_ret
    exact ⟨rfl, below_drewN (below_box (Below.refl w.heap.size w) _) k⟩
  · have h1 : H < -1073741824 ∨ 1073741823 < H := by omega
    by_cases h2 : n < 16
    · have g1 : decide ((n : Int) < 16) = true := decide_eq_true (by omega)
      have g2 : decide (n < 16) = true := decide_eq_true h2
      by_cases h3 : H < 0
      · have e : wideR H L n m = -1099511627776 := by unfold wideR; rw [if_neg h, if_pos h2, if_pos h3]
        rw [e]
        clear e h
        have g3 : decide (H < 0) = true := decide_eq_true h3
        have WN := Lib.hid fun w => within_no H (-1073741824) 1073741823 h1 w
        clear h1
        go_enter Try.func42, Try.ntmps42
        go_wp2_with fail
        (with_reducible refine (WN.out _).mono ?_)
        rintro e w1 ⟨rfl, rfl⟩
        go_wp2_with fail
        go_ret
        exact ⟨rfl, below_box (Below.refl w.heap.size w) _⟩
      · have e : wideR H L n m = 1099511627776 := by unfold wideR; rw [if_neg h, if_pos h2, if_neg h3]
        rw [e]
        clear e h
        have g3 : decide (H < 0) = false := decide_eq_false h3
        have WN := Lib.hid fun w => within_no H (-1073741824) 1073741823 h1 w
        clear h1
        go_enter Try.func42, Try.ntmps42
        go_wp2_with fail
        (with_reducible refine (WN.out _).mono ?_)
        rintro e w1 ⟨rfl, rfl⟩
        go_wp2_with fail
        go_ret
        exact ⟨rfl, below_box (Below.refl w.heap.size w) _⟩
    · have g1 : decide ((n : Int) < 16) = false := decide_eq_false (by omega)
      have g2 : decide (n < 16) = false := decide_eq_false h2
      obtain ⟨j, hj⟩ : ∃ j, n - 12 = j := ⟨_, rfl⟩
      have v0 : IntKind.i64.wrap ((n : Int) - 12) = (j : Int) := by rw [show (n : Int) - 12 = (j : Int) by omega]; exact IntWalk.i64_in _ (by omega)
      have e : wideR H L n m = rnd (headR H L) j m := by unfold wideR; rw [if_neg h, if_neg h2, hj]
      have WN := Lib.hid fun w => within_no H (-1073741824) 1073741823 h1 w
      have an : bits .and .i64 L 4095 = L % 4096 := by
        have := bits_mask 12 (by decide) L
        simpa using this
      rw [e]
      by_cases h3 : L % 4096 = 0
      all_goals
        have RA := Lib.hid (fun w => right_any (headR H L) j m (by omega) (by unfold headR; split <;> exact (bits_range _ _ _).1) (by unfold headR; split <;> exact (bits_range _ _ _).2) w)
        rw [show headR H L = _ from by unfold headR; first | rw [if_pos h3] | rw [if_neg h3]] at RA ⊢
        first | (have g3 : (L % 4096 != 0) = false := by simp [h3]) | (have g3 : (L % 4096 != 0) = true := by simp [h3])
        clear e h h1 h2 h3 hj
        go_enter Try.func42, Try.ntmps42
        go_wp2_with fail
        (with_reducible refine (WN.out _).mono ?_)
        rintro e w1 ⟨rfl, rfl⟩
        go_wp2_with fail
        (with_reducible refine (RA.out _).mono ?_)
        rintro e w1 ⟨rfl, k, rfl⟩
        go_wp2_with fail
        go_ret
        exact ⟨rfl, below_drewN (below_box (Below.refl w.heap.size w) _) k⟩

end Go.Proofs.Ythldpmfobhemkaa
