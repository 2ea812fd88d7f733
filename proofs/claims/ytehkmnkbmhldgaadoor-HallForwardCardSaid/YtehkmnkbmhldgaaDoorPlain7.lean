/- HallForward in plain Lean: what a state is while the sectors follow one another in one direction, and how far the estimate moves. No program in sight. -/
import Derived.Test.YtehkmnkbmhldgaaDoorPlain5
namespace Go.Proofs.YtehkmnkbmhldgaaDoor
open Go.RowKit

/-- The state ahead of tick r of entry m, in sector q. -/
def Fw (d q : Int) (m r : Nat) (s : HS) : Prop :=
  s.ok ∧ s.jump = 0 ∧ s.bad ≤ 20 * (m : Int) + r ∧
  ((m = 0 ∧ r = 0 ∧ s = HS.zero) ∨ (m = 0 ∧ 0 < r ∧ s.st = true ∧ s.sec = q ∧ s.dir = 0) ∨
   (0 < m ∧ r = 0 ∧ s.st = true ∧ (s.sec + d) % 6 = q ∧ (s.dir = 0 ∨ s.dir = d)) ∨ (0 < m ∧ 0 < r ∧ s.st = true ∧ s.sec = q ∧ s.dir = d))
theorem Fw_zero (d q : Int) : Fw d q 0 0 HS.zero := ⟨by unfold HS.ok HS.zero; simp only; omega, rfl, by unfold HS.zero; simp, .inl ⟨rfl, rfl, rfl⟩⟩
theorem Fw_turn {d q : Int} {m r : Nat} {s : HS} (h : Fw d q m r s) (hr : 0 < r) (hr2 : r ≤ 20) : Fw d ((q + d) % 6) (m + 1) 0 s := by
  obtain ⟨h1, h2, h3, h4⟩ := h
  refine ⟨h1, h2, by push_cast; omega, .inr (.inr (.inl ⟨by omega, rfl, ?_⟩))⟩
  rcases h4 with ⟨_, h, _⟩ | ⟨_, _, a, b, c⟩ | ⟨_, h, _⟩ | ⟨_, _, a, b, c⟩
  · omega
  · exact ⟨a, by rw [b], .inl c⟩
  · omega
  · exact ⟨a, by rw [b], .inr c⟩

/-- A step to the same sector, or a bad code. -/
theorem stn_same {s : HS} {j : Int} (hs : s.st = true) (hj : j = s.sec ∨ j < 0) (h0 : 0 ≤ s.sec) : ∃ b, stn s j = ⟨s.sec, s.dir, min (s.since + 1) 1048576, s.span, b, s.jump, true⟩ := by
  rcases hj with rfl | hj
  · exact ⟨s.bad, by unfold stn; rw [if_neg (by omega), if_neg (by simp [hs]), if_pos rfl, hs]⟩
  · exact ⟨s.bad + 1, by unfold stn; rw [if_pos hj, if_pos hs, hs]⟩
theorem stn_side {s : HS} {d q : Int} (hs : s.st = true) (hd : d = 1 ∨ d = -1) (hq : (s.sec + d) % 6 = q) : stn s q = mov s q d := by
  have e0 : ¬ q < 0 := by omega
  have e1 : ¬ s.st = false := by simp [hs]
  rcases hd with rfl | rfl
  · unfold stn
    rw [if_neg e0, if_neg e1, if_neg (by omega), if_pos (by omega)]
  · unfold stn
    rw [if_neg e0, if_neg e1, if_neg (by omega), if_neg (by omega), if_pos (by omega)]

/-- How far the estimate moves. -/
def far65 (d : Int) (s t : HS) : Prop := (ang t - ang s) * d ≤ 32768 ∧ -65536 ≤ (ang t - ang s) * d ∧ ((ang t - ang s) * d < 0 → (ang t - ang s) * d + 65536 ≤ 32768)
theorem far_same {s t : HS} {d b : Int} (ok : s.ok) (hd : d = 1 ∨ d = -1) (hs : s.dir = d) (ht : t = ⟨s.sec, s.dir, min (s.since + 1) 1048576, s.span, b, s.jump, true⟩) : far65 d s t := by
  obtain ⟨⟨h1, h2⟩, ⟨h3, h4⟩, ⟨h5, h6⟩, ⟨h7, h8⟩, ⟨h9, h10⟩, h11, h12⟩ := ok
  have hE : 0 ≤ edg s.sec ∧ edg s.sec + 10922 ≤ edg (s.sec + 1) ∧ edg (s.sec + 1) ≤ edg s.sec + 10923 ∧ edg (s.sec + 1) ≤ 65536 := by unfold edg; omega
  have key : ∀ x : Int, s.span ≠ 0 → 0 ≤ x → x ≤ s.span → 0 ≤ (x * (edg (s.sec + 1) - 1 - edg s.sec)).tdiv s.span ∧ (x * (edg (s.sec + 1) - 1 - edg s.sec)).tdiv s.span ≤ edg (s.sec + 1) - 1 - edg s.sec := fun x hx a b => by
    have := quot_le (b := edg (s.sec + 1) - 1 - edg s.sec) a b (by omega) (by omega)
    exact this.2.2
  have e1 : ang t = if s.dir = 0 ∨ s.span = 0 then (edg s.sec + edg (s.sec + 1)) / 2
    else if s.dir < 0 then edg (s.sec + 1) - 1 - (min (min (s.since + 1) 1048576) s.span * (edg (s.sec + 1) - 1 - edg s.sec)).tdiv s.span
    else edg s.sec + (min (min (s.since + 1) 1048576) s.span * (edg (s.sec + 1) - 1 - edg s.sec)).tdiv s.span := by rw [ht]; rfl
  unfold far65
  rw [e1]
  unfold ang
  by_cases g : s.dir = 0 ∨ s.span = 0
  · rw [if_pos g, if_pos g]
    rcases hd with rfl | rfl <;> omega
  · rw [if_neg g, if_neg g]
    have k1 := key (min s.since s.span) (by omega) (by omega) (by omega)
    have k2 := key (min (min (s.since + 1) 1048576) s.span) (by omega) (by omega) (by omega)
    have mono : (min s.since s.span * (edg (s.sec + 1) - 1 - edg s.sec)).tdiv s.span ≤ (min (min (s.since + 1) 1048576) s.span * (edg (s.sec + 1) - 1 - edg s.sec)).tdiv s.span := by
      have a : min s.since s.span * (edg (s.sec + 1) - 1 - edg s.sec) ≤ min (min (s.since + 1) 1048576) s.span * (edg (s.sec + 1) - 1 - edg s.sec) := Int.mul_le_mul_of_nonneg_right (by omega) (by omega)
      have b : 0 ≤ min s.since s.span * (edg (s.sec + 1) - 1 - edg s.sec) := Int.mul_nonneg (by omega) (by omega)
      rw [Int.tdiv_eq_ediv_of_nonneg b, Int.tdiv_eq_ediv_of_nonneg (by omega)]
      exact Int.ediv_le_ediv (by omega) a
    generalize (min s.since s.span * (edg (s.sec + 1) - 1 - edg s.sec)).tdiv s.span = Q at *
    generalize (min (min (s.since + 1) 1048576) s.span * (edg (s.sec + 1) - 1 - edg s.sec)).tdiv s.span = R at *
    rcases hd with rfl | rfl
    · rw [if_neg (by omega), if_neg (by omega)]; omega
    · rw [if_pos (by omega), if_pos (by omega)]; omega
theorem far_side {s t : HS} {d q : Int} (ok : s.ok) (ok2 : t.ok) (hd : d = 1 ∨ d = -1) (hq : (s.sec + d) % 6 = q) (ht : t.sec = q) : far65 d s t := by
  have a := ang_in ok
  have b := ang_in ok2
  obtain ⟨⟨h1, h2⟩, _⟩ := ok
  rw [ht] at b
  unfold far65
  unfold edg at a b
  rcases hd with rfl | rfl <;> omega

/-- A tick. -/
theorem Fw_step {d q j : Int} {m r : Nat} {s : HS} (h : Fw d q m r s) (hd : d = 1 ∨ d = -1) (hq : 0 ≤ q ∧ q ≤ 5) (hm : m ≤ 60) (hr : r ≤ 20) (hj : j = q ∨ (j = -1 ∧ r = 1)) :
    Fw d q m (r + 1) (stn s j) ∧ (0 < m → (stn s j).dir = d ∧ (stn s j).sec = q) ∧ (s.dir = d → far65 d s (stn s j)) := by
  obtain ⟨ok, h2, h3, h4⟩ := h
  have hb := ok.2.2.2.2.1
  have ok2 : (stn s j).ok := stn_ok ok (by omega) (by omega) (by omega)
  have b2 := stn_bad s j
  have b3 : (stn s j).bad ≤ 20 * (m : Int) + (r + 1 : Nat) := by
    rw [b2]
    split <;> push_cast <;> omega
  rcases h4 with ⟨rfl, rfl, rfl⟩ | ⟨rfl, hr0, a, b, c⟩ | ⟨hm0, rfl, a, b, c⟩ | ⟨hm0, hr0, a, b, c⟩
  · have hjq : j = q := by omega
    subst hjq
    have e : stn HS.zero j = ⟨j, 0, 0, 0, 0, 0, true⟩ := by unfold stn; rw [if_neg (by omega), if_pos (show HS.zero.st = false from rfl)]; rfl
    rw [e] at ok2 b3 ⊢
    exact ⟨⟨ok2, rfl, b3, .inr (.inl ⟨rfl, by omega, rfl, rfl, rfl⟩)⟩, fun h => absurd h (by omega), fun h => by unfold HS.zero at h; simp only at h; omega⟩
  · obtain ⟨b', e⟩ := stn_same a (show j = s.sec ∨ j < 0 by omega) ok.1.1
    rw [e] at ok2 b3 ⊢
    exact ⟨⟨ok2, h2, b3, .inr (.inl ⟨rfl, by omega, rfl, b, c⟩)⟩, fun h => absurd h (by omega), fun h => by omega⟩
  · have hjq : j = q := by omega
    subst hjq
    have e := stn_side a hd b
    have f : s.dir = d → far65 d s (stn s j) := fun _ => far_side ok ok2 hd b (by rw [e]; rfl)
    rw [e] at ok2 b3 f ⊢
    exact ⟨⟨ok2, h2, b3, .inr (.inr (.inr ⟨hm0, by omega, a, rfl, rfl⟩))⟩, fun _ => ⟨rfl, rfl⟩, f⟩
  · obtain ⟨b', e⟩ := stn_same a (show j = s.sec ∨ j < 0 by omega) ok.1.1
    have f : s.dir = d → far65 d s (stn s j) := fun h => far_same ok hd h e
    rw [e] at ok2 b3 f ⊢
    exact ⟨⟨ok2, h2, b3, .inr (.inr (.inr ⟨hm0, by omega, rfl, b, c⟩))⟩, fun _ => ⟨c, b⟩, f⟩
end Go.Proofs.YtehkmnkbmhldgaaDoor
