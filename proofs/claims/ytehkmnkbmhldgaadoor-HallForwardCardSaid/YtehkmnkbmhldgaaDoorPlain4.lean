/- HallStuck in plain Lean. -/
import Derived.Test.YtehkmnkbmhldgaaDoorAwake
import Derived.Test.YtehkmnkbmhldgaaDoorCodes
namespace Go.Proofs.YtehkmnkbmhldgaaDoor
open Go.RowKit

theorem stn_ok {s : HS} {k : Int} (h : s.ok) (hk : k ≤ 5) (hb : s.bad < 1099511627776) (hj : s.jump < 1099511627776) : (stn s k).ok := by
  unfold HS.ok at h ⊢
  unfold stn mov
  repeat' split
  all_goals (simp only; omega)
theorem stn_bad (s : HS) (k : Int) : (stn s k).bad = if k < 0 then s.bad + 1 else s.bad := by
  unfold stn mov
  repeat' split
  all_goals first | rfl | omega
theorem stn_jump (s : HS) (k : Int) : (stn s k).jump ≤ s.jump + 1 := by
  unfold stn mov
  repeat' split
  all_goals (try simp only); omega

/-- The code with a line stuck. -/
def stuckC (M : Int) (v : Bool) (y : Int) : Int := if v then bits .or .i64 y M else bits .or .i64 y M - M
def stuckAt (M : Int) (v : Bool) (x : Int) (k : Nat) : Int := stuckC M v (codeF (x + (k : Int) * 5461))
theorem hits (x : Int) (q : Nat) (hq : q < 6) : ∃ i : Nat, i < 12 ∧ secN ((x + (i : Int) * 5461) % 65536) = q := by
  have key : ∀ E : Int, 0 ≤ E → E ≤ 65536 - 10922 → ∃ i : Nat, i < 12 ∧ E ≤ (x + (i : Int) * 5461) % 65536 ∧ (x + (i : Int) * 5461) % 65536 < E + 10922 := fun E h0 h1 => by
    by_cases ht : (E - x) % 65536 ≤ 60071
    · exact ⟨(((E - x) % 65536 + 5460) / 5461).toNat, by omega, by omega, by omega⟩
    · exact ⟨0, by omega, by omega, by omega⟩
  have hE := edg_le q hq
  have e0 := edgL_eq q (by omega)
  have e1 := edgL_eq (q + 1) (by omega)
  obtain ⟨i, hi, h1, h2⟩ := key (edgL q) (by rw [e0]; exact hE.1) (by rw [e0]; omega)
  exact ⟨i, hi, secN_uniq hq h1 (by rw [e1]; push_cast; rw [e0] at h2; omega) (by omega)⟩
theorem stuck_some (M : Int) (v : Bool) (hM : M = 1 ∨ M = 2 ∨ M = 4) : ∃ q, q < 6 ∧ secF (stuckC M v (codL q)) < 0 := by
  rcases hM with rfl | rfl | rfl <;> cases v
  · exact ⟨5, by decide, by decide +kernel⟩
  · exact ⟨2, by decide, by decide +kernel⟩
  · exact ⟨3, by decide, by decide +kernel⟩
  · exact ⟨0, by decide, by decide +kernel⟩
  · exact ⟨1, by decide, by decide +kernel⟩
  · exact ⟨4, by decide, by decide +kernel⟩
theorem stuck_hit (M : Int) (v : Bool) (x : Int) (hM : M = 1 ∨ M = 2 ∨ M = 4) : ∃ i : Nat, i < 12 ∧ secF (stuckAt M v x i) < 0 := by
  obtain ⟨q, hq, h⟩ := stuck_some M v hM
  obtain ⟨i, hi, e⟩ := hits x q hq
  refine ⟨i, hi, ?_⟩
  unfold stuckAt codeF
  rw [e]
  exact h
theorem stuck_fits : ∀ j : Fin 6, ∀ m : Fin 3, -7 ≤ bits .or .i64 (codL j.val) (2 ^ m.val) ∧ bits .or .i64 (codL j.val) (2 ^ m.val) ≤ 7 := by decide +kernel

end Go.Proofs.YtehkmnkbmhldgaaDoor
