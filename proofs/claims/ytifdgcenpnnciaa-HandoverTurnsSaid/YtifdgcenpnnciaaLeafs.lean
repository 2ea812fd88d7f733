/- The contracts of the small functions of layer 41 that only compute: wrap, norm, near, Clip, Abs, source. -/
import Derived.Test.YtifdgcenpnnciaaRows
import Derived.WalkKit
import Derived.WalkSpells
import Derived.WalkLawsBesides
import Derived.Lib.MinMax
namespace Go.Proofs.Ytifdgcenpnnciaa
open Go.RowKit

theorem ret_int {k : IntKind} {a b : Int} (h : a = b) : Ending.returned (.int k a) = .returned (.int k b) := by rw [h]

/-- 'x & (2^n - 1)' is the remainder. -/
theorem bits_mask (n : Nat) (hn : n < 63) (x : Int) : bits .and .i64 x (2 ^ n - 1) = x % 2 ^ n := by
  have h2 : ((2 : Int) ^ n) = ((2 ^ n : Nat) : Int) := by simp
  have hp : 2 ^ n < 2 ^ 63 := Nat.pow_lt_pow_right (by decide) hn
  have hp0 : 0 < 2 ^ n := Nat.two_pow_pos n
  have h1 : ((2 : Int) ^ n - 1) = ((2 ^ n - 1 : Nat) : Int) := by omega
  show IntKind.i64.wrap ((BitVec.ofInt 64 x &&& BitVec.ofInt 64 (2 ^ n - 1)).toNat : Int) = _
  rw [BitVec.toNat_and, h1, BitVec.ofInt_natCast, BitVec.toNat_ofNat, Nat.mod_eq_of_lt (by omega : 2 ^ n - 1 < 2 ^ 64), Nat.and_two_pow_sub_one_eq_mod, BitVec.toNat_ofInt]
  have hd : (((2 ^ 64 : Nat) : Int)) = ((2 ^ n : Nat) : Int) * ((2 ^ (64 - n) : Nat) : Int) := by
    rw [← Int.natCast_mul, ← Nat.pow_add]
    congr 2
    omega
  have e : (((x % ((2 ^ 64 : Nat) : Int)).toNat % 2 ^ n : Nat) : Int) = x % ((2 ^ n : Nat) : Int) := by
    rw [Int.natCast_emod, Int.toNat_of_nonneg (Int.emod_nonneg _ (by simp)), hd, Int.emod_emod_of_dvd _ (Int.dvd_mul_right _ _)]
  rw [e, IntKind.wrap_i64, h2]
  have b0 := Int.emod_nonneg x (show ((2 ^ n : Nat) : Int) ≠ 0 by omega)
  have b1 := Int.emod_lt_of_pos x (show (0 : Int) < ((2 ^ n : Nat) : Int) by omega)
  omega

set_option maxHeartbeats 400000 in
theorem clip_any (n lo hi : Int) (w : World) :
    Calls Try.prog 17 #[.int .i64 n, .int .i64 lo, .int .i64 hi] w fun e w' => e = .returned (.int .i64 (max lo (min n hi))) ∧ w = w' := by
  go_enter Try.func17, Try.ntmps17
  go_wp2
  go_ret
  exact ⟨rfl, rfl⟩

set_option maxHeartbeats 400000 in
theorem wrap_any (x : Int) (w : World) :
    Calls Try.prog 19 #[.int .i64 x] w fun e w' => e = .returned (.int .i64 (x % 4294967296)) ∧ w = w' := by
  go_enter Try.func19, Try.ntmps19
  go_wp2
  go_ret
  exact ⟨ret_int (bits_mask 32 (by decide) x), rfl⟩

theorem tspec (x c : Int) (hc : 0 < c) : c * x.tdiv c + x.tmod c = x ∧ (0 ≤ x → 0 ≤ x.tmod c ∧ x.tmod c < c ∧ 0 ≤ x.tdiv c) ∧ (x ≤ 0 → -c < x.tmod c ∧ x.tmod c ≤ 0 ∧ x.tdiv c ≤ 0) := by
  refine ⟨Int.mul_tdiv_add_tmod x c, fun h => ⟨Int.tmod_nonneg _ h, Int.tmod_lt_of_pos _ hc, Int.tdiv_nonneg h (by omega)⟩, fun h => ?_⟩
  have h1 := Int.tmod_nonneg (a := -x) c (by omega)
  have h2 := Int.tmod_lt_of_pos (-x) hc
  have h3 := Int.tdiv_nonneg (a := -x) (b := c) (by omega) (by omega)
  rw [Int.neg_tmod] at h1 h2
  rw [Int.neg_tdiv] at h3
  omega

theorem tmod_T (x : Int) : (wrap64 (x.tmod 4294967296 + 4294967296)).tmod 4294967296 = x % 4294967296 := by
  unfold wrap64
  have h1 := tspec x 4294967296 (by decide)
  have h2 := tspec ((x.tmod 4294967296 + 4294967296 + 9223372036854775808) % 18446744073709551616 - 9223372036854775808) 4294967296 (by decide)
  omega

set_option maxHeartbeats 400000 in
theorem norm_any (x : Int) (w : World) :
    Calls Try.prog 21 #[.int .i64 x] w fun e w' => e = .returned (.int .i64 (x % 4294967296)) ∧ w = w' := by
  go_enter Try.func21, Try.ntmps21
  go_wp2
  go_ret
  exact ⟨ret_int (tmod_T x), rfl⟩
set_option maxHeartbeats 400000 in
theorem num_err (c : Int) (w : World) :
    Calls Try.prog 12 #[.iface 49 (.int .i64 c)] w fun e w' => e = .returned (.int .i64 c) ∧ w = w' := by
  have hta : ∀ c w, (Instr.typeAssert (.iface 49 (.int .i64 c)) 28 49 true).run Try.prog w = .ok (.tuple #[.int .i64 c, .bool true]) w := fun _ _ => by kernel_rfl
  go_enter Try.func12, Try.ntmps12
  go_wp2
  go_ret
  exact ⟨rfl, rfl⟩
theorem num_nil (w : World) :
    Calls Try.prog 12 #[.nilIface] w fun e w' => e = .returned (.int .i64 0) ∧ w = w' := by
  go_enter Try.func12, Try.ntmps12
  go_wp2
  go_ret
  exact ⟨rfl, rfl⟩
end Go.Proofs.Ytifdgcenpnnciaa
