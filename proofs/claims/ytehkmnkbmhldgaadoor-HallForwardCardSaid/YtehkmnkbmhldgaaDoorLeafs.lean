/- The contracts of layer 33's small functions: clip, mod, Edge, codes, Sector. -/
import Derived.Test.YtehkmnkbmhldgaaDoorPlain
import Derived.Deep.QuietTactic
import Derived.BigQuiet
import Derived.Deep.RegionHeld3
import Derived.Deep.DeepCutAuto
namespace Go.Proofs.YtehkmnkbmhldgaaDoor
open Go.RowKit

theorem clip_any (n lo hi : Int) (h : lo ≤ hi) (w : World) : Calls Tryd.prog 30 #[.int .i64 n, .int .i64 lo, .int .i64 hi] w fun e w' => e = .returned (.int .i64 (clp n lo hi)) ∧ w = w' := by
  unfold clp
  go_enter Tryd.func30, Tryd.ntmps30
  go_wp2
  go_ret
  exact ⟨ret_int (by omega), rfl⟩
theorem rclip_any (n lo hi : Int) (w : World) : Calls Tryd.prog 31 #[.int .i64 n, .int .i64 lo, .int .i64 hi] w fun e w' => e = .returned (.int .i64 (clp n lo hi)) ∧ w = w' := by
  unfold clp
  go_enter Tryd.func31, Tryd.ntmps31
  go_wp2
  go_ret
  exact ⟨rfl, rfl⟩
theorem cClip_any (n lo hi : Int) (w : World) : Calls Tryd.prog 18 #[.int .i64 n, .int .i64 lo, .int .i64 hi] w fun e w' => e = .returned (.int .i64 (clp n lo hi)) ∧ w = w' := by
  unfold clp
  go_enter Tryd.func18, Tryd.ntmps18
  go_wp2
  go_ret
  exact ⟨rfl, rfl⟩
theorem tmod_mod (a b : Int) (h : 0 < b) : (a.tmod b + b).tmod b = a % b := by
  have h1 := tspec a b h
  have h2 : -b < a.tmod b := by
    rcases Int.le_total 0 a with h0 | h0
    · have := h1.2.1 h0; omega
    · have := h1.2.2 h0; omega
  rw [Int.tmod_eq_emod_of_nonneg (by omega), Int.add_emod_right]
  have e : a = a.tmod b + b * a.tdiv b := by omega
  conv => rhs; rw [e]
  rw [Int.add_mul_emod_self_left]
theorem mod_any (a b : Int) (h : 0 < b) (h2 : b ≤ 65536) (w : World) : Calls Tryd.prog 28 #[.int .i64 a, .int .i64 b] w fun e w' => e = .returned (.int .i64 (a % b)) ∧ w = w' := by
  have h1 := tspec a b h
  have h3 : -b < a.tmod b ∧ a.tmod b < b := by
    rcases Int.le_total 0 a with h0 | h0
    · have := h1.2.1 h0; omega
    · have := h1.2.2 h0; omega
  have e1 : IntKind.i64.wrap (a.tmod b + b) = a.tmod b + b := IntWalk.i64_in _ (by omega)
  go_enter Tryd.func28, Tryd.ntmps28
  go_wp2
  go_ret
  exact ⟨ret_int (by have e2 := Int.tmod_eq_emod_of_nonneg (a := a.tmod b + b) (b := b) (by omega); rw [← e2]; exact tmod_mod a b h), rfl⟩
theorem edge_any (k : Int) (h : 0 ≤ k) (h2 : k ≤ 6) (w : World) : Calls Tryd.prog 20 #[.int .i64 k] w fun e w' => e = .returned (.int .i64 (edg k)) ∧ w = w' := by
  go_enter Tryd.func20, Tryd.ntmps20
  go_wp2
  go_ret
  exact ⟨rfl, rfl⟩
theorem codes_any (w : World) : Calls Tryd.prog 29 #[] w fun e w' => e = .returned (.slice (some ⟨w.heap.size, 0, none⟩) 6 6) ∧ (∀ i, i < 6 → w'.cell? ⟨w.heap.size, i, none⟩ = some (.int .i64 (codL i))) ∧ Below w.heap.size w w' := by
  go_enter Tryd.func29, Tryd.ntmps29
  go_wp2
  go_ret
  refine ⟨rfl, fun i hi => ?_, below_box (Below.refl _ _) _⟩
  match i, hi with
  | 0, _ => exact ((Blk.new w _ _).cell 0).trans rfl
  | 1, _ => exact ((Blk.new w _ _).cell 1).trans rfl
  | 2, _ => exact ((Blk.new w _ _).cell 2).trans rfl
  | 3, _ => exact ((Blk.new w _ _).cell 3).trans rfl
  | 4, _ => exact ((Blk.new w _ _).cell 4).trans rfl
  | 5, _ => exact ((Blk.new w _ _).cell 5).trans rfl

theorem Sector_any (c : Int) (w : World) (T : Tabs w) : Calls Tryd.prog 14 #[.int .i64 c] w fun e w' => e = .returned (if secF c < 0 then .tuple #[.int .i64 0, errV 2] else .tuple #[.int .i64 (secF c), .nilIface]) ∧ w = w' := by
  have k0 : w.cell? ⟨1, 0, none⟩ = some (.int .i64 5) := T.code 0 (by decide)
  have k1 : w.cell? ⟨1, 1, none⟩ = some (.int .i64 4) := T.code 1 (by decide)
  have k2 : w.cell? ⟨1, 2, none⟩ = some (.int .i64 6) := T.code 2 (by decide)
  have k3 : w.cell? ⟨1, 3, none⟩ = some (.int .i64 2) := T.code 3 (by decide)
  have k4 : w.cell? ⟨1, 4, none⟩ = some (.int .i64 3) := T.code 4 (by decide)
  have k5 : w.cell? ⟨1, 5, none⟩ = some (.int .i64 1) := T.code 5 (by decide)
  have i0 : ∀ w, (Instr.index 48 (.agg #[.int .i64 5, .int .i64 4, .int .i64 6, .int .i64 2, .int .i64 3, .int .i64 1]) (.int .i64 0)).run Tryd.prog w = .ok (.int .i64 5) w := fun _ => by kernel_rfl
  have i1 : ∀ w, (Instr.index 48 (.agg #[.int .i64 5, .int .i64 4, .int .i64 6, .int .i64 2, .int .i64 3, .int .i64 1]) (.int .i64 1)).run Tryd.prog w = .ok (.int .i64 4) w := fun _ => by kernel_rfl
  have i2 : ∀ w, (Instr.index 48 (.agg #[.int .i64 5, .int .i64 4, .int .i64 6, .int .i64 2, .int .i64 3, .int .i64 1]) (.int .i64 2)).run Tryd.prog w = .ok (.int .i64 6) w := fun _ => by kernel_rfl
  have i3 : ∀ w, (Instr.index 48 (.agg #[.int .i64 5, .int .i64 4, .int .i64 6, .int .i64 2, .int .i64 3, .int .i64 1]) (.int .i64 3)).run Tryd.prog w = .ok (.int .i64 2) w := fun _ => by kernel_rfl
  have i4 : ∀ w, (Instr.index 48 (.agg #[.int .i64 5, .int .i64 4, .int .i64 6, .int .i64 2, .int .i64 3, .int .i64 1]) (.int .i64 4)).run Tryd.prog w = .ok (.int .i64 3) w := fun _ => by kernel_rfl
  have i5 : ∀ w, (Instr.index 48 (.agg #[.int .i64 5, .int .i64 4, .int .i64 6, .int .i64 2, .int .i64 3, .int .i64 1]) (.int .i64 5)).run Tryd.prog w = .ok (.int .i64 1) w := fun _ => by kernel_rfl
  go_enter Tryd.func14, Tryd.ntmps14
  go_wp2_with fail
  clear k0 k1 k2 k3 k4 k5
  go_loopw [7] (fun i wr => ∃ k : Nat, k ≤ 6 ∧ (∀ j, j < k → codL j ≠ c) ∧ i = .int .i64 k ∧ wr = w)
    (fun i _ => 6 - (intOf i).toNat)
  case atStart => exact ⟨0, by omega, fun j hj => by omega, rfl, rfl⟩
  case round =>
    obtain ⟨k, hk, hno, rfl, rfl⟩ := hrel
    by_cases h6 : k = 6
    · subst h6
      have e := secF_none hno
      go_wp2_with fail
      go_ret2
      exact ⟨rfl, rfl⟩
    · by_cases hc : codL k = c
      · have e := secF_codL k (by omega)
        rw [hc] at e
        clear hno e
        have : k = 0 ∨ k = 1 ∨ k = 2 ∨ k = 3 ∨ k = 4 ∨ k = 5 := by omega
        rcases this with rfl | rfl | rfl | rfl | rfl | rfl
        all_goals
          simp only [codL] at hc
          subst hc
          go_wp2_with fail
          go_ret2
          exact ⟨rfl, rfl⟩
      · have hno2 : ∀ j, j < k + 1 → codL j ≠ c := fun j hj => by
          rcases Nat.lt_succ_iff_lt_or_eq.1 hj with h | rfl
          · exact hno j h
          · exact hc
        have N2 := Lib.hid hno2
        clear hno hno2
        have : k = 0 ∨ k = 1 ∨ k = 2 ∨ k = 3 ∨ k = 4 ∨ k = 5 := by omega
        rcases this with rfl | rfl | rfl | rfl | rfl | rfl
        all_goals
          simp only [codL] at hc
          go_wp2_with fail
          exact ⟨⟨_, by omega, N2.out, by go_num, trivial⟩, by simp [intOf]⟩
theorem rSector_any (c : Int) (w : World) : Calls Tryd.prog 16 #[.int .i64 c] w fun e w' => e = .returned (.int .i64 (secF c)) ∧ Below w.heap.size w w' := by
  go_enter Tryd.func16, Tryd.ntmps16
  go_wp2_with fail
  go_loopw [3] (fun i wr => ∃ k : Nat, k ≤ 6 ∧ (∀ j, j < k → codL j ≠ c) ∧ i = .int .i64 k ∧ Below w.heap.size w wr)
    (fun i _ => 6 - (intOf i).toNat)
  case atStart => exact ⟨0, by omega, fun j hj => by omega, rfl, Below.refl _ _⟩
  case round =>
    obtain ⟨k, hk, hno, rfl, B⟩ := hrel
    by_cases h6 : k = 6
    · subst h6
      have e := secF_none hno
      clear hno
      go_wp2_with fail
      go_ret
      exact ⟨ret_int e.symm, B⟩
    · have hk6 : k < 6 := by omega
      by_cases hc : codL k = c
      · have e := secF_codL k (by omega)
        rw [hc] at e
        clear hno
        go_wp2_with (go_at_call 29; refine (codes_any _).mono ?_; rintro e w1 ⟨rfl, hcells, hb1⟩; have ck := hcells k hk6; clear hcells)
        go_ret
        exact ⟨ret_int e.symm, below_call B hb1⟩
      · have hno2 : ∀ j, j < k + 1 → codL j ≠ c := fun j hj => by
          rcases Nat.lt_succ_iff_lt_or_eq.1 hj with h | rfl
          · exact hno j h
          · exact hc
        have N2 := Lib.hid hno2
        clear hno hno2
        go_wp2_with (go_at_call 29; refine (codes_any _).mono ?_; rintro e w1 ⟨rfl, hcells, hb1⟩; have ck := hcells k hk6; clear hcells)
        exact ⟨⟨k + 1, by omega, N2.out, by go_num, below_call B hb1⟩, by simp [intOf]; omega⟩
end Go.Proofs.YtehkmnkbmhldgaaDoor
