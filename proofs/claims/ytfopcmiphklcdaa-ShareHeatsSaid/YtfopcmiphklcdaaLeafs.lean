/- The drives; bound, level, ref's Cap and within. -/
import Derived.Test.YtfopcmiphklcdaaBase
import Derived.Test.YtfopcmiphklcdaaKeep
import Derived.Lib.MinMax
import Derived.Lib.Hide
import Derived.Deep.RegionHeld3
import Derived.WalkKit
namespace Go.Proofs.Ytfopcmiphklcdaa
open Go.RowKit

/-- A drive: Least, Most, Want, Weight. -/
structure Dr where
  a : Int
  b : Int
  c : Int
  d : Int
def vD (x : Dr) : Array Value := #[.int .i64 x.a, .int .i64 x.b, .int .i64 x.c, .int .i64 x.d]
def okD (x : Dr) : Prop := (0 ≤ x.a ∧ x.a ≤ x.b ∧ x.b ≤ 1073741824) ∧ (0 ≤ x.c ∧ x.c ≤ 1073741824) ∧ 1 ≤ x.d ∧ x.d ≤ 1000
instance (x : Dr) : Decidable (okD x) := by unfold okD; infer_instance
def capD (x : Dr) : Int := max x.a (min x.b x.c)
def levD (x : Dr) (r : Int) : Int := max x.a (min (capD x) (r * x.d))
theorem mul_bd {r d : Int} (h0 : 0 ≤ r) (h1 : r ≤ 1073741824) (h2 : 1 ≤ d) (h3 : d ≤ 1000) : 0 ≤ r * d ∧ r * d ≤ 1073741824000 := by
  constructor
  · exact Int.mul_nonneg h0 (by omega)
  · have := Int.mul_le_mul h1 h3 (by omega) (by omega)
    omega

theorem bound_any (x : Dr) (w : World) : Calls Try.prog 30 #[.agg #[.int .i64 x.a, .int .i64 x.b, .int .i64 x.c, .int .i64 x.d]] w fun e w' => e = .returned (.int .i64 (capD x)) ∧ Below w.heap.size w w' := by
  unfold capD
  go_enter Try.func30, Try.ntmps30
  go_wp2
  go_ret
  exact ⟨rfl, below_box (Below.refl w.heap.size w) _⟩
theorem rCap_any (x : Dr) (w : World) : Calls Try.prog 19 #[.agg #[.int .i64 x.a, .int .i64 x.b, .int .i64 x.c, .int .i64 x.d]] w fun e w' => e = .returned (.int .i64 (capD x)) ∧ Below w.heap.size w w' := by
  have e : capD x = max (min x.b x.c) x.a := by unfold capD; omega
  rw [e]
  go_enter Try.func19, Try.ntmps19
  go_wp2
  go_ret
  exact ⟨rfl, below_box (Below.refl w.heap.size w) _⟩
theorem within_any (n lo hi : Int) (w : World) : Calls Try.prog 31 #[.int .i64 n, .int .i64 lo, .int .i64 hi] w fun e w' => e = .returned (.bool (decide (lo ≤ n) && decide (n ≤ hi))) ∧ w = w' := by
  by_cases h1 : lo ≤ n
  · have g1 : decide (lo ≤ n) = true := decide_eq_true h1
    rw [g1]
    go_enter Try.func31, Try.ntmps31
    go_wp2
    go_ret
    exact ⟨ret_bool (by simp), rfl⟩
  · have g1 : decide (lo ≤ n) = false := decide_eq_false h1
    rw [g1]
    go_enter Try.func31, Try.ntmps31
    go_wp2
    go_ret
    exact ⟨ret_bool (by simp), rfl⟩
set_option maxHeartbeats 1000000 in
theorem level_any (x : Dr) (r : Int) (h0 : 0 ≤ r) (h1 : r ≤ 1073741824) (h2 : 1 ≤ x.d) (h3 : x.d ≤ 1000) (w : World) : Calls Try.prog 29 #[.agg #[.int .i64 x.a, .int .i64 x.b, .int .i64 x.c, .int .i64 x.d], .int .i64 r] w fun e w' => e = .returned (.int .i64 (levD x r)) ∧ Below w.heap.size w w' := by
  unfold levD
  have m := mul_bd h0 h1 h2 h3
  obtain ⟨pr, hpr⟩ : ∃ pr, r * x.d = pr := ⟨_, rfl⟩
  have wr : IntKind.i64.wrap (r * x.d) = pr := by rw [hpr]; exact IntWalk.i64_in _ (by omega)
  rw [hpr]
  clear hpr m
  have BD := Lib.hid (bound_any x)
  generalize capD x = cp at *
  go_enter Try.func29, Try.ntmps29
  go_wp2_with fail
  have KK : Kp w (w.alloc (.cells #[.int .i64 x.a, .int .i64 x.b, .int .i64 x.c, .int .i64 x.d] 40)) [(w.heap.size, 40, #[.int .i64 x.a, .int .i64 x.b, .int .i64 x.c, .int .i64 x.d])] := (Kp.base w).new _ _
  generalize hW : w.alloc (.cells #[.int .i64 x.a, .int .i64 x.b, .int .i64 x.c, .int .i64 x.d] 40) = W at *
  have KD := KK.drew
  have dF := KD.1.cell
  go_region_held3 (fun w' => ∀ i, w'.cell? ⟨w.heap.size, i, none⟩ = (#[.int .i64 x.a, .int .i64 x.b, .int .i64 x.c, .int .i64 x.d] : Array Value)[i]?)
    (first
      | with_reducible exact dF
      | with_reducible exact eF
      | fail)
    (first
      | (go_at_call 30; (with_reducible refine (BD.out _).mono ?_); rintro e w1 ⟨rfl, hb1⟩; have KE := KD.call hb1; have eF := KE.1.cell))
  go_wp2_with fail
  go_ret
  exact ⟨rfl, KE.below⟩

end Go.Proofs.Ytfopcmiphklcdaa
