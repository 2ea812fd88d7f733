/- The contracts of layer 29's functions that only compute, and of Check, Net, Speed, magnitude, Num, Is. -/
import Derived.Test.YtckhlcifpeocdaaPlain
import Derived.Deep.QuietTactic
import Derived.BigQuiet
import Derived.Deep.RegionHeld3
namespace Go.Proofs.Ytckhlcifpeocdaa
open Go.RowKit

theorem num_any (c : Int) (w : World) : Calls Try.prog 13 #[errV c] w fun e w' => e = .returned (.int .i64 c) ∧ w = w' := by
  have hta : ∀ c w, (Instr.typeAssert (.iface 54 (.int .i64 c)) 27 54 true).run Try.prog w = .ok (.tuple #[.int .i64 c, .bool true]) w := fun _ _ => by kernel_rfl
  by_cases h : c = 0
  · subst h
    rw [errV_zero]
    go_enter Try.func13, Try.ntmps13
    go_wp2
    go_ret
    exact ⟨rfl, rfl⟩
  · unfold errV
    rw [if_neg h]
    go_enter Try.func13, Try.ntmps13
    go_wp2
    go_ret
    exact ⟨rfl, rfl⟩
/-- Is an error this code? -/
def isB (c k : Int) : Bool := !(c == 0) && c == k
theorem is_any (c k : Int) (w : World) : Calls Try.prog 28 #[errV c, .int .i64 k] w fun e w' => e = .returned (.bool (isB c k)) ∧ w = w' := by
  have hta : ∀ c w, (Instr.typeAssert (.iface 54 (.int .i64 c)) 27 54 true).run Try.prog w = .ok (.tuple #[.int .i64 c, .bool true]) w := fun _ _ => by kernel_rfl
  have htn : ∀ w, (Instr.typeAssert .nilIface 27 54 true).run Try.prog w = .ok (.tuple #[.int .i64 0, .bool false]) w := fun _ => by kernel_rfl
  by_cases h : c = 0
  · subst h
    rw [errV_zero]
    go_enter Try.func28, Try.ntmps28
    go_wp2
    go_ret
    exact ⟨rfl, rfl⟩
  · have hb : isB c k = (c == k) := by simp [isB, h]
    rw [hb]
    unfold errV
    rw [if_neg h]
    clear hb
    go_enter Try.func28, Try.ntmps28
    go_wp2
    go_ret
    exact ⟨rfl, rfl⟩

theorem within_yes (n lo hi : Int) (w : World) (h : lo ≤ n) (h2 : n ≤ hi) : Calls Try.prog 32 #[.int .i64 n, .int .i64 lo, .int .i64 hi] w fun e w' => e = .returned (.bool true) ∧ w = w' := by
  go_enter Try.func32, Try.ntmps32
  go_wp2
  go_ret
  exact ⟨rfl, rfl⟩
theorem within_no (n lo hi : Int) (w : World) (h : n < lo ∨ hi < n) : Calls Try.prog 32 #[.int .i64 n, .int .i64 lo, .int .i64 hi] w fun e w' => e = .returned (.bool false) ∧ w = w' := by
  by_cases h1 : lo ≤ n
  · have h2 : hi < n := by omega
    clear h
    go_enter Try.func32, Try.ntmps32
    go_wp2
    go_ret
    exact ⟨ret_bool (by simp; omega), rfl⟩
  · have h2 : n < lo := by omega
    clear h h1
    go_enter Try.func32, Try.ntmps32
    go_wp2
    go_ret
    exact ⟨rfl, rfl⟩
theorem rwithin_yes (n lo hi : Int) (w : World) (h : lo ≤ n) (h2 : n ≤ hi) : Calls Try.prog 33 #[.int .i64 n, .int .i64 lo, .int .i64 hi] w fun e w' => e = .returned (.bool true) ∧ w = w' := by
  go_enter Try.func33, Try.ntmps33
  go_wp2
  go_ret
  exact ⟨rfl, rfl⟩
theorem rwithin_no (n lo hi : Int) (w : World) (h : n < lo ∨ hi < n) : Calls Try.prog 33 #[.int .i64 n, .int .i64 lo, .int .i64 hi] w fun e w' => e = .returned (.bool false) ∧ w = w' := by
  by_cases h1 : lo ≤ n
  · have h2 : hi < n := by omega
    clear h
    go_enter Try.func33, Try.ntmps33
    go_wp2
    go_ret
    exact ⟨ret_bool (by simp; omega), rfl⟩
  · have h2 : n < lo := by omega
    clear h h1
    go_enter Try.func33, Try.ntmps33
    go_wp2
    go_ret
    exact ⟨rfl, rfl⟩

theorem clip_any (n lo hi : Int) (h : lo ≤ hi) (w : World) : Calls Try.prog 34 #[.int .i64 n, .int .i64 lo, .int .i64 hi] w fun e w' => e = .returned (.int .i64 (max lo (min n hi))) ∧ w = w' := by
  go_enter Try.func34, Try.ntmps34
  go_wp2
  go_ret
  exact ⟨ret_int (by omega), rfl⟩
theorem rclip_any (n lo hi : Int) (w : World) : Calls Try.prog 37 #[.int .i64 n, .int .i64 lo, .int .i64 hi] w fun e w' => e = .returned (.int .i64 (max lo (min n hi))) ∧ w = w' := by
  go_enter Try.func37, Try.ntmps37
  go_wp2
  go_ret
  exact ⟨rfl, rfl⟩
theorem sign_any (n : Int) (w : World) : Calls Try.prog 39 #[.int .i64 n] w fun e w' => e = .returned (.int .i64 (sgn n)) ∧ w = w' := by
  go_enter Try.func39, Try.ntmps39
  go_wp2_with (go_at_call 34; refine (clip_any _ _ _ (by omega) _).mono ?_; rintro e w' ⟨rfl, rfl⟩)
  go_ret
  exact ⟨rfl, rfl⟩
theorem rsign_any (n : Int) (w : World) : Calls Try.prog 40 #[.int .i64 n] w fun e w' => e = .returned (.int .i64 (sgn n)) ∧ w = w' := by
  by_cases h : 0 < n
  · rw [sgn_pos h]
    go_enter Try.func40, Try.ntmps40
    go_wp2
    go_ret
    exact ⟨rfl, rfl⟩
  · by_cases h2 : n < 0
    · rw [sgn_neg h2]
      clear h
      go_enter Try.func40, Try.ntmps40
      go_wp2
      go_ret
      exact ⟨rfl, rfl⟩
    · obtain rfl : n = 0 := by omega
      rw [sgn_zero]
      clear h h2
      go_enter Try.func40, Try.ntmps40
      go_wp2
      go_ret
      exact ⟨rfl, rfl⟩
theorem Wrap_any (x : Int) (w : World) : Calls Try.prog 21 #[.int .i64 x] w fun e w' => e = .returned (.int .i64 (wrapP x)) ∧ w = w' := by
  have e : bits .and .i64 (wrap64 (x + 72057594037927936)) 144115188075855871 = wrap64 (x + 72057594037927936) % 144115188075855872 := bits_mask 57 (by decide) _
  go_enter Try.func21, Try.ntmps21
  go_wp2
  go_ret
  exact ⟨ret_int (by unfold wrapP wrap64; omega), rfl⟩
theorem rWrap_any (x : Int) (h : -9223372036854775808 ≤ x) (h2 : x ≤ 9223372036854775807) (w : World) : Calls Try.prog 23 #[.int .i64 x] w fun e w' => e = .returned (.int .i64 (wrapP x)) ∧ w = w' := by
  have t := tspec x 144115188075855872 (by decide)
  go_enter Try.func23, Try.ntmps23
  go_wp2
  all_goals
    go_ret
    exact ⟨ret_int (by unfold wrapP; omega), rfl⟩
theorem Div_any (a : Int) (h : -9223372036854775808 ≤ a) (h2 : a ≤ 9223372036854775807) (w : World) : Calls Try.prog 25 #[.int .i64 a, .int .i64 4294967296] w fun e w' => e = .returned (.int .i64 (a / 4294967296)) ∧ w = w' := by
  have t := tspec a 4294967296 (by decide)
  go_enter Try.func25, Try.ntmps25
  go_wp2
  all_goals
    go_ret
    exact ⟨ret_int (by omega), rfl⟩

def netI (t l : Int) : Int := max (-16777216) (min t 16777216) - max (-16777216) (min l 16777216)
theorem netI_le (t l : Int) : -33554432 ≤ netI t l ∧ netI t l ≤ 33554432 := by unfold netI; omega
def clS (v : Int) : Int := max (-1073741824) (min v 1073741824)
theorem clS_le (v : Int) : -1073741824 ≤ clS v ∧ clS v ≤ 1073741824 := by unfold clS; omega

set_option maxHeartbeats 400000 in
theorem Speed_any (p v : Int) (w : World) : Calls Try.prog 20 #[.agg #[.int .i64 p, .int .i64 v]] w fun e w' => e = .returned (.int .i64 (clS v)) ∧ Below w.heap.size w w' := by
  go_enter Try.func20, Try.ntmps20
  go_wp2_with (go_at_call 37; refine (rclip_any _ _ _ _).mono ?_; rintro e w' ⟨rfl, rfl⟩)
  go_ret
  exact ⟨rfl, below_box (Below.refl _ _) _⟩
set_option maxHeartbeats 400000 in
theorem magnitude_any (p v : Int) (w : World) : Calls Try.prog 38 #[.agg #[.int .i64 p, .int .i64 v]] w fun e w' => e = .returned (.int .i64 (max (clS v) (-clS v))) ∧ Below w.heap.size w w' := by
  have := clS_le v
  have e : max (-1073741824) (min v 1073741824) = clS v := rfl
  go_enter Try.func38, Try.ntmps38
  go_wp2_with (go_at_call 34; refine (clip_any _ _ _ (by omega) _).mono ?_; rintro e w' ⟨rfl, rfl⟩)
  go_ret
  exact ⟨rfl, below_box (Below.refl _ _) _⟩
set_option maxHeartbeats 400000 in
theorem size_any (p v : Int) (w : World) : Calls Try.prog 19 #[.agg #[.int .i64 p, .int .i64 v]] w fun e w' => e = .returned (.int .i64 (max (clS v) (-clS v))) ∧ Below w.heap.size w w' := by
  have := clS_le v
  go_enter Try.func19, Try.ntmps19
  go_wp2_with (go_at_call 20; refine (Speed_any _ _ _).mono ?_; rintro e w1 ⟨rfl, hb1⟩)
  go_ret
  exact ⟨rfl, below_call (below_box (Below.refl _ _) _) hb1⟩
set_option maxHeartbeats 400000 in
theorem Net_any (t l : Int) (w : World) : Calls Try.prog 18 #[.agg #[.int .i64 t, .int .i64 l]] w fun e w' => e = .returned (.int .i64 (netI t l)) ∧ Below w.heap.size w w' := by
  have hs : IntKind.i64.wrap (max (-16777216) (min t 16777216) - max (-16777216) (min l 16777216)) = max (-16777216) (min t 16777216) - max (-16777216) (min l 16777216) := IntWalk.i64_in _ (by omega)
  go_enter Try.func18, Try.ntmps18
  go_wp2_with fail
  go_quiet ((go_at_call 37; exact Calls.quiet_of_same ((rclip_any _ _ _ _).mono (by rintro e w' ⟨rfl, rfl⟩; exact ⟨rfl, rfl⟩))))
  go_wp2_with fail
  go_ret
  exact ⟨rfl, below_drewN (below_box (Below.refl _ _) _) _⟩

/-- Is a configuration of the form? -/
def okC (G D R : Int) : Prop := 0 ≤ G ∧ G ≤ 1048576 ∧ 0 ≤ D ∧ D ≤ 24 ∧ 0 ≤ R ∧ R ≤ 16777216
set_option maxHeartbeats 1000000 in
theorem Check_yes (G D R : Int) (h : okC G D R) (w : World) : Calls Try.prog 14 #[.agg #[.int .i64 G, .int .i64 D, .int .i64 R]] w fun e w' => e = .returned .nilIface ∧ Below w.heap.size w w' := by
  obtain ⟨h1, h2, h3, h4, h5, h6⟩ := h
  go_enter Try.func14, Try.ntmps14
  go_wp2_with (go_at_call 32; refine (within_yes _ _ _ _ (by omega) (by omega)).mono ?_; rintro e w' ⟨rfl, rfl⟩)
  go_ret
  exact ⟨rfl, below_box (Below.refl _ _) _⟩
set_option maxHeartbeats 1000000 in
theorem Check_no (G D R : Int) (h : ¬ okC G D R) (w : World) : Calls Try.prog 14 #[.agg #[.int .i64 G, .int .i64 D, .int .i64 R]] w fun e w' => e = .returned (.iface 54 (.int .i64 3)) ∧ Below w.heap.size w w' := by
  have three : (G < 0 ∨ 1048576 < G) ∨ ((0 ≤ G ∧ G ≤ 1048576) ∧ (D < 0 ∨ 24 < D)) ∨ ((0 ≤ G ∧ G ≤ 1048576) ∧ (0 ≤ D ∧ D ≤ 24) ∧ (R < 0 ∨ 16777216 < R)) := by unfold okC at h; omega
  clear h
  rcases three with h1 | ⟨⟨h1, h2⟩, h3⟩ | ⟨⟨h1, h2⟩, ⟨h3, h4⟩, h5⟩
  all_goals
    go_enter Try.func14, Try.ntmps14
    go_wp2_with (first
      | (go_at_call 32; (with_reducible refine (within_yes G _ _ _ (by omega) (by omega)).mono ?_); rintro e w' ⟨rfl, rfl⟩)
      | (go_at_call 32; (with_reducible refine (within_yes D _ _ _ (by omega) (by omega)).mono ?_); rintro e w' ⟨rfl, rfl⟩)
      | (go_at_call 32; (with_reducible refine (within_no G _ _ _ (by omega)).mono ?_); rintro e w' ⟨rfl, rfl⟩)
      | (go_at_call 32; (with_reducible refine (within_no D _ _ _ (by omega)).mono ?_); rintro e w' ⟨rfl, rfl⟩)
      | (go_at_call 32; (with_reducible refine (within_no R _ _ _ (by omega)).mono ?_); rintro e w' ⟨rfl, rfl⟩))
    go_ret
    exact ⟨rfl, below_box (Below.refl _ _) _⟩
end Go.Proofs.Ytckhlcifpeocdaa
