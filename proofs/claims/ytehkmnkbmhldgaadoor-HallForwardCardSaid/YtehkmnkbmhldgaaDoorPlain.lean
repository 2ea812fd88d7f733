/- Layer 33 (hall) in plain Lean: the sector of a code, a state in its ranges, a step, the estimates. No program in sight. -/
import Derived.Test.YtehkmnkbmhldgaaDoorBase
namespace Go.Proofs.YtehkmnkbmhldgaaDoor
open Go.RowKit

def edgL : Nat → Int | 0 => 0 | 1 => 10923 | 2 => 21846 | 3 => 32768 | 4 => 43691 | 5 => 54614 | _ => 65536
def codL : Nat → Int | 0 => 5 | 1 => 4 | 2 => 6 | 3 => 2 | 4 => 3 | _ => 1
/-- The sector of a code, or -1. -/
def secF (c : Int) : Int := if c = 5 then 0 else if c = 4 then 1 else if c = 6 then 2 else if c = 2 then 3 else if c = 3 then 4 else if c = 1 then 5 else -1
theorem secF_le (c : Int) : -1 ≤ secF c ∧ secF c ≤ 5 := by unfold secF; repeat (split; omega); omega
theorem secF_codL : ∀ k, k < 6 → secF (codL k) = k
  | 0, _ => rfl | 1, _ => rfl | 2, _ => rfl | 3, _ => rfl | 4, _ => rfl | 5, _ => rfl
theorem secF_none {c : Int} (h : ∀ j, j < 6 → codL j ≠ c) : secF c = -1 := by
  have h0 := h 0 (by decide)
  have h1 := h 1 (by decide)
  have h2 := h 2 (by decide)
  have h3 := h 3 (by decide)
  have h4 := h 4 (by decide)
  have h5 := h 5 (by decide)
  simp only [codL] at h0 h1 h2 h3 h4 h5
  unfold secF
  rw [if_neg (by omega), if_neg (by omega), if_neg (by omega), if_neg (by omega), if_neg (by omega), if_neg (by omega)]

/-- A state of the decoder. -/
structure HS where
  sec : Int
  dir : Int
  since : Int
  span : Int
  bad : Int
  jump : Int
  st : Bool
def HS.cs (s : HS) : Array Value := #[.int .i64 s.sec, .int .i64 s.dir, .int .i64 s.since, .int .i64 s.span, .int .i64 s.bad, .int .i64 s.jump, .bool s.st]
def HS.zero : HS := ⟨0, 0, 0, 0, 0, 0, false⟩
def clp (n lo hi : Int) : Int := max lo (min n hi)
def nrm (s : HS) : HS := ⟨s.sec % 6, clp s.dir (-1) 1, clp s.since 0 1048576, clp s.span 0 1048576, clp s.bad 0 1099511627776, clp s.jump 0 1099511627776, s.st⟩
/-- All numbers in their ranges. -/
def HS.ok (s : HS) : Prop := (0 ≤ s.sec ∧ s.sec ≤ 5) ∧ (-1 ≤ s.dir ∧ s.dir ≤ 1) ∧ (0 ≤ s.since ∧ s.since ≤ 1048576) ∧ (0 ≤ s.span ∧ s.span ≤ 1048576) ∧ (0 ≤ s.bad ∧ s.bad ≤ 1099511627776) ∧ (0 ≤ s.jump ∧ s.jump ≤ 1099511627776)
theorem nrm_ok (s : HS) : (nrm s).ok := by
  unfold HS.ok nrm clp
  simp only
  refine ⟨by omega, by omega, by omega, by omega, by omega, by omega⟩
theorem nrm_of_ok {s : HS} (h : s.ok) : nrm s = s := by
  obtain ⟨a, b, c, d, e, f, g⟩ := s
  unfold HS.ok at h
  unfold nrm clp
  simp only at h ⊢
  congr 1 <;> omega
/-- What a change to a neighbouring sector makes of a state in its ranges. -/
def mov (s : HS) (k d : Int) : HS := ⟨k, d, 0, if s.dir = d then min (s.since + 1) 1048576 else 0, s.bad, s.jump, s.st⟩
/-- A step from a state in its ranges. -/
def stn (s : HS) (k : Int) : HS :=
  if k < 0 then ⟨s.sec, s.dir, if s.st then min (s.since + 1) 1048576 else s.since, s.span, s.bad + 1, s.jump, s.st⟩
  else if s.st = false then ⟨k, 0, 0, 0, s.bad, s.jump, true⟩
  else if k = s.sec then ⟨s.sec, s.dir, min (s.since + 1) 1048576, s.span, s.bad, s.jump, s.st⟩
  else if k = (s.sec + 1) % 6 then mov s k 1
  else if k = (s.sec + 5) % 6 then mov s k (-1)
  else ⟨k, 0, 0, 0, s.bad, s.jump + 1, s.st⟩
def stp (s : HS) (c : Int) : HS := stn (nrm s) (secF c)
def edg (k : Int) : Int := (k * 65536 + 5) / 6
theorem edgL_eq : ∀ k : Nat, k < 7 → edgL k = edg k
  | 0, _ => by decide | 1, _ => by decide | 2, _ => by decide | 3, _ => by decide | 4, _ => by decide | 5, _ => by decide | 6, _ => by decide
/-- The estimate of the angle from a state in its ranges. -/
def ang (s : HS) : Int :=
  if s.dir = 0 ∨ s.span = 0 then (edg s.sec + edg (s.sec + 1)) / 2
  else if s.dir < 0 then edg (s.sec + 1) - 1 - (min s.since s.span * (edg (s.sec + 1) - 1 - edg s.sec)).tdiv s.span
  else edg s.sec + (min s.since s.span * (edg (s.sec + 1) - 1 - edg s.sec)).tdiv s.span
/-- The estimate of the speed from a state in its ranges. -/
def spe (s : HS) : Int := if s.span = 0 then 0 else clp ((s.dir * 10923 * 65536).tdiv (max s.span (s.since + 1))) (-1073741824) 1073741824

/-- The two tables lie in their blocks. -/
structure Tabs (w : World) : Prop where
  edge : ∀ i, i < 7 → w.cell? ⟨0, i, none⟩ = some (.int .i64 (edgL i))
  code : ∀ i, i < 6 → w.cell? ⟨1, i, none⟩ = some (.int .i64 (codL i))
theorem Tabs.size {w : World} (h : Tabs w) : 1 < w.heap.size := World.block_lt_of_cell? w ⟨1, 0, none⟩ (h.code 0 (by decide))
theorem Tabs.below {w w' : World} (h : Tabs w) (hb : Below w.heap.size w w') : Tabs w' := by
  have h1 := h.size
  exact ⟨fun i hi => (hb.cell (p := ⟨0, i, none⟩) (by simp; omega)).trans (h.edge i hi), fun i hi => (hb.cell (p := ⟨1, i, none⟩) (by simp; omega)).trans (h.code i hi)⟩
end Go.Proofs.YtehkmnkbmhldgaaDoor
