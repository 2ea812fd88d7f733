/- The walks of layer 41's larger functions. -/
import Derived.Test.YtifdgcenpnnciaaLeafs
import Derived.Deep.QuietTactic
import Derived.BigQuiet
import Derived.Lib.MinMax
namespace Go.Proofs.Ytifdgcenpnnciaa
open Go.RowKit

/-- The way from an output to a source. -/
def dst (x a : Int) : Int := ((a * 65536) % 4294967296 - x % 4294967296 + 2147483648) % 4294967296 - 2147483648
theorem dst_le (x a : Int) : -2147483648 ≤ dst x a ∧ dst x a ≤ 2147483647 := by unfold dst; omega

theorem below_drewN {B : Nat} {a w : World} (h : Below B a w) (n : Nat) : Below B a (w.drewN n) := ⟨h.os, h.tape, h.output, h.size, h.block⟩
theorem far {W w1 : World} (hb : Below W.heap.size W w1) : (∀ b o, b < W.heap.size → w1.cell? ⟨b, o, none⟩ = W.cell? ⟨b, o, none⟩) ∧ (∀ b o, b < W.heap.size → w1.frozen? ⟨b, o, none⟩ = W.frozen? ⟨b, o, none⟩) ∧ W.heap.size ≤ w1.heap.size :=
  ⟨fun b o h => hb.cell (p := ⟨b, o, none⟩) h, fun b o h => hb.frozen (p := ⟨b, o, none⟩) h, hb.size⟩

set_option maxHeartbeats 400000 in
theorem dist_any (x a : Int) (w : World) :
    Calls Try.prog 20 #[.int .i64 x, .int .i64 a] w fun e w' => e = .returned (.int .i64 (dst x a)) ∧ w = w' := by
  go_enter Try.func20, Try.ntmps20
  go_wp2_with (go_at_call 19; refine (wrap_any _ _).mono ?_; rintro e w' ⟨rfl, rfl⟩)
  go_ret
  exact ⟨ret_int (by unfold dst wrap64; omega), rfl⟩

set_option maxHeartbeats 400000 in
theorem Distance_any (x a : Int) (s : Bool) (w : World) :
    Calls Try.prog 13 #[.agg #[.int .i64 x, .bool s], .int .i64 a] w fun e w' => e = .returned (.int .i64 (dst x a)) ∧ Below w.heap.size w w' := by
  go_enter Try.func13, Try.ntmps13
  go_wp2_with (go_at_call 20; refine (dist_any _ _ _).mono ?_; rintro e w' ⟨rfl, rfl⟩)
  go_ret
  exact ⟨rfl, (Below.refl _ _).alloc (Nat.le_refl _) _⟩

theorem shl16 (a : Int) : wrap64 (a * 65536) % 4294967296 = a * 65536 % 4294967296 := by unfold wrap64; omega
theorem ret_agg2 {a b : Int} {s : Bool} (h : a = b) : Ending.returned (.agg #[.int .i64 a, .bool s]) = .returned (.agg #[.int .i64 b, .bool s]) := by rw [h]

set_option maxHeartbeats 400000 in
theorem near_any (x : Int) (w : World) :
    Calls Try.prog 23 #[.int .i64 x] w fun e w' => e = .returned (.int .i64 ((x + 2147483648) % 4294967296 - 2147483648)) ∧ w = w' := by
  go_enter Try.func23, Try.ntmps23
  go_wp2_with (go_at_call 21; refine (norm_any _ _).mono ?_; rintro e w' ⟨rfl, rfl⟩)
  go_ret
  exact ⟨ret_int (by omega), rfl⟩
set_option maxHeartbeats 400000 in
theorem source_any (x : Int) (w : World) :
    Calls Try.prog 24 #[.int .i64 x] w fun e w' => e = .returned (.int .i64 (x * 65536 % 4294967296)) ∧ w = w' := by
  have h1 := tspec x 65536 (by decide)
  go_enter Try.func24, Try.ntmps24
  go_wp2_with (go_at_call 21; refine (norm_any _ _).mono ?_; rintro e w' ⟨rfl, rfl⟩)
  go_ret
  exact ⟨ret_int (by omega), rfl⟩
set_option maxHeartbeats 400000 in
theorem rDistance_any (x a : Int) (s : Bool) (w : World) :
    Calls Try.prog 14 #[.agg #[.int .i64 x, .bool s], .int .i64 a] w fun e w' => e = .returned (.int .i64 (dst x a)) ∧ Below w.heap.size w w' := by
  go_enter Try.func14, Try.ntmps14
  go_wp2_with fail
  go_outline
  go_quiet ((first | (go_at_call 24; exact Calls.quiet_of_same ((source_any _ _).mono (by rintro e w' ⟨rfl, rfl⟩; exact ⟨rfl, rfl⟩))) | (go_at_call 21; exact Calls.quiet_of_same ((norm_any _ _).mono (by rintro e w' ⟨rfl, rfl⟩; exact ⟨rfl, rfl⟩))) | (go_at_call 23; exact Calls.quiet_of_same ((near_any _ _).mono (by rintro e w' ⟨rfl, rfl⟩; exact ⟨rfl, rfl⟩)))))
  go_wp2_with fail
  go_show
  go_ret
  exact ⟨ret_int (by unfold dst; omega), below_drewN ((Below.refl _ _).alloc (Nat.le_refl _) _) _⟩

set_option maxHeartbeats 400000 in
theorem Reset_any (a : Int) (w : World) :
    Calls Try.prog 15 #[.int .i64 a] w fun e w' => e = .returned (.agg #[.int .i64 (a * 65536 % 4294967296), .bool true]) ∧ Below w.heap.size w w' := by
  go_enter Try.func15, Try.ntmps15
  go_wp2_with (go_at_call 19; refine (wrap_any _ _).mono ?_; rintro e w' ⟨rfl, rfl⟩)
  exact bodyPost_ret (v := .agg #[.int .i64 (wrap64 (a * 65536) % 4294967296), .bool true]) (by simp [results, Try.results15, go_sem]) rfl ⟨ret_agg2 (shl16 a), (Below.refl _ _).alloc (Nat.le_refl _) _⟩

set_option maxHeartbeats 400000 in
theorem Step_bad (m x a v : Int) (s : Bool) (w : World) (h : m < 0 ∨ 1073741824 < m) :
    Calls Try.prog 8 #[.int .i64 m, .agg #[.int .i64 x, .bool s], .agg #[.int .i64 a, .int .i64 v]] w fun e w' => e = .returned (.tuple #[.agg #[.int .i64 0, .bool false], .iface 49 (.int .i64 3)]) ∧ Below w.heap.size w w' := by
  go_enter Try.func8, Try.ntmps8
  go_wp2_with fail
  all_goals exact bodyPost_ret (v := .tuple #[.agg #[.int .i64 0, .bool false], .iface 49 (.int .i64 3)]) (by simp [results, Try.results8, go_sem]) rfl ⟨rfl, (((Below.refl _ _).alloc (Nat.le_refl _) _).alloc (by simp) _).alloc (by simp; omega) _⟩

set_option maxHeartbeats 400000 in
theorem Step_new (m x a v : Int) (w : World) (h : 0 ≤ m) (h2 : m ≤ 1073741824) :
    Calls Try.prog 8 #[.int .i64 m, .agg #[.int .i64 x, .bool false], .agg #[.int .i64 a, .int .i64 v]] w fun e w' => e = .returned (.tuple #[.agg #[.int .i64 (a * 65536 % 4294967296), .bool true], .nilIface]) ∧ Below w.heap.size w w' := by
  go_enter Try.func8, Try.ntmps8
  go_wp2_with (go_at_call 15; refine (Reset_any _ _).mono ?_; rintro e w1 ⟨rfl, hb⟩; obtain ⟨hc, hf, hz⟩ := far hb; simp at hz)
  refine bodyPost_ret (v := .tuple #[.agg #[.int .i64 (a * 65536 % 4294967296), .bool true], .nilIface]) ?_ rfl ⟨rfl, ?_⟩
  · simp [results, Try.results8, go_sem, hc]
  · repeat' (first | exact Below.refl _ _ | refine Below.setCell ?_ ?_ _ | refine Below.alloc ?_ ?_ _ | refine below_drewN ?_ _ | refine Below.trans ?_ (hb.mono ?_) | (simp; done) | (simp; omega))

/-- The output after a tick. -/
def stp (m x a v : Int) : Int :=
  (x % 4294967296 + max (-1073741824) (min v 1073741824) + max (-m) (min (dst (x % 4294967296 + max (-1073741824) (min v 1073741824)) a) m)) % 4294967296

set_option maxHeartbeats 400000 in
theorem Step_run (m x a v : Int) (w : World) (h : 0 ≤ m) (h2 : m ≤ 1073741824) :
    Calls Try.prog 8 #[.int .i64 m, .agg #[.int .i64 x, .bool true], .agg #[.int .i64 a, .int .i64 v]] w fun e w' => e = .returned (.tuple #[.agg #[.int .i64 (stp m x a v), .bool true], .nilIface]) ∧ Below w.heap.size w w' := by
  have hd := dst_le (x % 4294967296 + max (-1073741824) (min v 1073741824)) a
  go_enter Try.func8, Try.ntmps8
  go_wp2_with fail
  go_quiet ((go_at_call 19; exact Calls.quiet_of_same ((wrap_any _ _).mono (by rintro e w' ⟨rfl, rfl⟩; exact ⟨rfl, rfl⟩))))
  go_wp2_with (first | (go_at_call 19; refine (wrap_any _ _).mono ?_; rintro e w' ⟨rfl, rfl⟩) | (go_at_call 20; refine (dist_any _ _ _).mono ?_; rintro e w' ⟨rfl, rfl⟩))
  refine bodyPost_ret (v := .tuple #[.agg #[.int .i64 (stp m x a v), .bool true], .nilIface]) ?_ rfl ⟨rfl, ?_⟩
  · simp [results, Try.results8, go_sem]
    rfl
  · repeat' (first | exact Below.refl _ _ | refine Below.setCell ?_ ?_ _ | refine Below.alloc ?_ ?_ _ | refine below_drewN ?_ _ | (simp; done) | (simp; omega))
end Go.Proofs.Ytifdgcenpnnciaa
