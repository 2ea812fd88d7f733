/- HallSpeed in plain Lean: the states of a turn with the same number of ticks in each sector, and of the waiting behind it. No program in sight. -/
import Derived.Test.YtehkmnkbmhldgaaDoorPlain4
import Derived.Test.YtehkmnkbmhldgaaDoorLaw2
namespace Go.Proofs.YtehkmnkbmhldgaaDoor
open Go.RowKit

/-- The state behind j ticks, at least one, in the sector of number i. -/
def spE (n d : Int) : Nat → Int → HS
  | 0, j => ⟨0, 0, j - 1, 0, 0, 0, true⟩
  | 1, j => ⟨d % 6, d, j - 1, 0, 0, 0, true⟩
  | 2, j => ⟨(2 * d) % 6, d, j - 1, n, 0, 0, true⟩
  | _, j => ⟨3, d, j - 1, n, 0, 0, true⟩
def spS (n d : Int) (i : Nat) (j : Int) : HS := if j = 0 then (match i with | 0 => HS.zero | i + 1 => spE n d i n) else spE n d i j
def kAt (d : Int) (i : Nat) : Int := ((i : Int) * d) % 6
theorem kAt_next (d : Int) (i : Nat) : (kAt d i + d) % 6 = kAt d (i + 1) := by
  unfold kAt
  rw [show ((i + 1 : Nat) : Int) * d = (i : Int) * d + d by push_cast; rw [Int.add_mul, Int.one_mul]]
  generalize (i : Int) * d = x
  omega
theorem kAt_le (d : Int) (i : Nat) : 0 ≤ kAt d i ∧ kAt d i ≤ 5 := by unfold kAt; omega
theorem spS_next {n d : Int} (hn : 1 ≤ n) (hn2 : n ≤ 50) (hd : d = 1 ∨ d = -1) {i : Nat} (hi : i < 4) {j : Int} (hj : 0 ≤ j) (hj2 : j < n) : stn (spS n d i j) (kAt d i) = spS n d i (j + 1) := by
  have hm : min n 1048576 = n := by omega
  have hm2 : min j 1048576 = j := by omega
  have h1 : ¬ j + 1 = 0 := by omega
  have : i = 0 ∨ i = 1 ∨ i = 2 ∨ i = 3 := by omega
  by_cases h0 : j = 0
  · subst h0
    rcases hd with rfl | rfl <;> rcases this with rfl | rfl | rfl | rfl <;> simp [spS, spE, stn, mov, kAt, HS.zero, hm]
  · rcases hd with rfl | rfl <;> rcases this with rfl | rfl | rfl | rfl <;> simp [spS, spE, stn, kAt, h0, h1, hm2]
theorem spE_ok {n d : Int} (hn : 1 ≤ n) (hn2 : n ≤ 50) (hd : d = 1 ∨ d = -1) : ∀ (i : Nat) {j : Int}, 1 ≤ j → j ≤ 200 → (spE n d i j).ok
  | 0, j, _, _ => by unfold spE HS.ok; simp only; omega
  | 1, j, _, _ => by unfold spE HS.ok; simp only; omega
  | 2, j, _, _ => by unfold spE HS.ok; simp only; omega
  | _ + 3, j, _, _ => by unfold spE HS.ok; simp only; omega
theorem spS_ok {n d : Int} (hn : 1 ≤ n) (hn2 : n ≤ 50) (hd : d = 1 ∨ d = -1) (i : Nat) {j : Int} (hj : 0 ≤ j) (hj2 : j ≤ n) : (spS n d i j).ok := by
  unfold spS
  split
  · cases i with
    | zero => unfold HS.zero HS.ok; simp only; omega
    | succ i => exact spE_ok hn hn2 hd i hn (by omega)
  · exact spE_ok hn hn2 hd i (by omega) (by omega)
theorem spS_turn {n d : Int} (hn : 1 ≤ n) (i : Nat) : spS n d i n = spS n d (i + 1) 0 := by
  unfold spS
  rw [if_neg (by omega), if_pos rfl]
theorem wait_next {n d j : Int} (hj : 1 ≤ j) (hj2 : j ≤ 150) : stn (spE n d 3 j) 3 = spE n d 3 (j + 1) := by
  have hm2 : min j 1048576 = j := by omega
  simp [spE, stn, hm2]
theorem edge_code : ∀ k : Fin 6, secF (codeF (edg k.val)) = k.val := by decide +kernel
theorem edge_code' {k : Int} (h : 0 ≤ k ∧ k ≤ 5) : secF (codeF (edg k)) = k := by
  obtain ⟨q, rfl⟩ : ∃ q : Nat, k = q := ⟨k.toNat, by omega⟩
  exact edge_code ⟨q, by omega⟩
theorem wait_code {n d j : Int} (hn : 1 ≤ n) (hn2 : n ≤ 50) (hd : d = 1 ∨ d = -1) (hj : 1 ≤ j) (hj2 : j ≤ 200) : secF (codeF (ang (spE n d 3 j))) = 3 := by
  rw [secF_codeF, ang_sec (spE_ok hn hn2 hd 3 hj hj2)]
  rfl
/-- The speed behind the turn. -/
theorem spe_turn {n d : Int} (hn : 1 ≤ n) : spe (spE n d 3 n) = clp ((d * 10923 * 65536).tdiv n) (-1073741824) 1073741824 := by
  unfold spe spE
  simp only
  rw [if_neg (by omega), show max n (n - 1 + 1) = n by omega]
/-- Waiting longer only makes the speed less. -/
theorem spe_wait {n d j : Int} (hn : 1 ≤ n) (hj : n ≤ j) (hd : d = 1 ∨ d = -1) : spe (spE n d 3 (j + 1)) * d ≤ spe (spE n d 3 j) * d ∧ 0 ≤ spe (spE n d 3 (j + 1)) * d := by
  have h0 : ∀ m : Int, 1 ≤ m → 0 ≤ (715849728 : Int) / m ∧ (715849728 : Int) / m ≤ 715849728 := fun m hm => ⟨Int.ediv_nonneg (by decide) (by omega), Int.ediv_le_self _ (by decide)⟩
  have h1 : (715849728 : Int) / (j + 1) ≤ 715849728 / j := by
    have a := Int.ediv_mul_le (715849728 : Int) (show j + 1 ≠ 0 by omega)
    rw [Int.le_ediv_iff_mul_le (by omega)]
    have b := (h0 (j + 1) (by omega)).1
    rw [Int.mul_add, Int.mul_one] at a
    omega
  have a := h0 j (by omega)
  have b := h0 (j + 1) (by omega)
  have e : ∀ m : Int, n ≤ m → spe (spE n d 3 m) = d * (715849728 / m) := fun m hm => by
    have c := h0 m (by omega)
    unfold spe spE clp
    simp only
    rw [if_neg (by omega), show max n (m - 1 + 1) = m by omega]
    rcases hd with rfl | rfl
    · rw [show (1 : Int) * 10923 * 65536 = 715849728 by decide, Int.tdiv_eq_ediv_of_nonneg (by decide)]
      omega
    · rw [show (-1 : Int) * 10923 * 65536 = -715849728 by decide, Int.neg_tdiv, Int.tdiv_eq_ediv_of_nonneg (by decide)]
      omega
  rw [e _ (by omega), e _ hj]
  rcases hd with rfl | rfl <;> omega
theorem spe_le (s : HS) : -1073741824 ≤ spe s ∧ spe s ≤ 1073741824 := by unfold spe clp; split <;> omega
end Go.Proofs.YtehkmnkbmhldgaaDoor
