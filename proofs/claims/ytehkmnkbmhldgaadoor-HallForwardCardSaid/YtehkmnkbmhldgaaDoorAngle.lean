/- The walks of layer 33's Angle, and of the reference's. -/
import Derived.Test.YtehkmnkbmhldgaaDoorNorm1
import Derived.Test.YtehkmnkbmhldgaaDoorNorm2
import Derived.Test.YtehkmnkbmhldgaaDoorSteps
namespace Go.Proofs.YtehkmnkbmhldgaaDoor
open Go.RowKit

theorem quot_le {a b s : Int} (h : 0 ≤ a) (h2 : a ≤ s) (h3 : 0 < s) (h4 : 0 ≤ b) : 0 ≤ a * b ∧ a * b ≤ s * b ∧ 0 ≤ (a * b).tdiv s ∧ (a * b).tdiv s ≤ b := by
  have e0 := Int.mul_nonneg h h4
  have e1 : a * b ≤ s * b := Int.mul_le_mul_of_nonneg_right h2 h4
  rw [Int.tdiv_eq_ediv_of_nonneg e0]
  refine ⟨e0, e1, Int.ediv_nonneg e0 (by omega), ?_⟩
  have := Int.ediv_le_ediv h3 e1
  rwa [Int.mul_ediv_cancel_left _ (by omega)] at this
theorem edg_le (q : Nat) (h : q < 6) : 0 ≤ edg q ∧ edg q + 10922 ≤ edg (q + 1) ∧ edg (q + 1) ≤ edg q + 10923 ∧ edg (q + 1) ≤ 65536 := by
  unfold edg
  omega

set_option maxHeartbeats 800000 in
theorem Angle_any (s : HS) (w : World) (T : Tabs w) : Calls Tryd.prog 21 #[.agg #[.int .i64 s.sec, .int .i64 s.dir, .int .i64 s.since, .int .i64 s.span, .int .i64 s.bad, .int .i64 s.jump, .bool s.st]] w fun e w' => e = .returned (.int .i64 (ang (nrm s))) ∧ Below w.heap.size w w' := by
  go_enter Tryd.func21, Tryd.ntmps21
  go_wp2_with fail
  (with_reducible refine (normal_any s _).mono ?_)
  rintro e w1 ⟨rfl, hb1⟩
  obtain ⟨bS, cS, fS, zS⟩ := (Blk.new w 23 #[.int .i64 s.sec, .int .i64 s.dir, .int .i64 s.since, .int .i64 s.span, .int .i64 s.bad, .int .i64 s.jump, .bool s.st]).next hb1
  simp at bS cS fS zS
  have B1 := below_call (below_box (Below.refl w.heap.size w) _) hb1
  have hn := nrm_ok s
  generalize hN : nrm s = n at *
  have bS2 : Blk (((((((w1.setCell ⟨w.heap.size, 0, none⟩ (.int .i64 n.sec)).setCell ⟨w.heap.size, 1, none⟩ (.int .i64 n.dir)).setCell ⟨w.heap.size, 2, none⟩ (.int .i64 n.since)).setCell ⟨w.heap.size, 3, none⟩ (.int .i64 n.span)).setCell ⟨w.heap.size, 4, none⟩ (.int .i64 n.bad)).setCell ⟨w.heap.size, 5, none⟩ (.int .i64 n.jump)).setCell ⟨w.heap.size, 6, none⟩ (.bool n.st)) w.heap.size 23 #[.int .i64 n.sec, .int .i64 n.dir, .int .i64 n.since, .int .i64 n.span, .int .i64 n.bad, .int .i64 n.jump, .bool n.st] := ((((((bS.put 0 _).put 1 _).put 2 _).put 3 _).put 4 _).put 5 _).put 6 _
  have B2 : Below w.heap.size w (((((((w1.setCell ⟨w.heap.size, 0, none⟩ (.int .i64 n.sec)).setCell ⟨w.heap.size, 1, none⟩ (.int .i64 n.dir)).setCell ⟨w.heap.size, 2, none⟩ (.int .i64 n.since)).setCell ⟨w.heap.size, 3, none⟩ (.int .i64 n.span)).setCell ⟨w.heap.size, 4, none⟩ (.int .i64 n.bad)).setCell ⟨w.heap.size, 5, none⟩ (.int .i64 n.jump)).setCell ⟨w.heap.size, 6, none⟩ (.bool n.st)) := below_set (below_set (below_set (below_set (below_set (below_set (below_set B1 (Nat.le_refl _) _) (Nat.le_refl _) _) (Nat.le_refl _) _) (Nat.le_refl _) _) (Nat.le_refl _) _) (Nat.le_refl _) _) (Nat.le_refl _) _
  go_wp2_with fail
  generalize (((((((w1.setCell ⟨w.heap.size, 0, none⟩ (.int .i64 n.sec)).setCell ⟨w.heap.size, 1, none⟩ (.int .i64 n.dir)).setCell ⟨w.heap.size, 2, none⟩ (.int .i64 n.since)).setCell ⟨w.heap.size, 3, none⟩ (.int .i64 n.span)).setCell ⟨w.heap.size, 4, none⟩ (.int .i64 n.bad)).setCell ⟨w.heap.size, 5, none⟩ (.int .i64 n.jump)).setCell ⟨w.heap.size, 6, none⟩ (.bool n.st)) = w2 at bS2 B2 ⊢
  clear cS fS zS bS B1 hb1
  obtain ⟨⟨h1, h2⟩, ⟨h3, h4⟩, ⟨h5, h6⟩, ⟨h7, h8⟩, ⟨h9, h10⟩, h11, h12⟩ := hn
  obtain ⟨cS, fS, zS⟩ := And.intro bS2.cell (And.intro bS2.frozen bS2.lt)
  have T2 := T.below B2
  obtain ⟨q, hq⟩ : ∃ q : Nat, n.sec = q := ⟨n.sec.toNat, by omega⟩
  have hq6 : q < 6 := by omega
  have c0 : w2.cell? ⟨0, q, none⟩ = some (.int .i64 (edg q)) := (T2.edge q (by omega)).trans (by rw [edgL_eq q (by omega)])
  have c1 : w2.cell? ⟨0, q + 1, none⟩ = some (.int .i64 (edg (q + 1))) := (T2.edge (q + 1) (by omega)).trans (by rw [edgL_eq (q + 1) (by omega)]; rfl)
  have hE := edg_le q hq6
  have HA : Hid (ang n = if n.dir = 0 ∨ n.span = 0 then (edg q + edg (q + 1)) / 2
    else if n.dir < 0 then edg (q + 1) - 1 - (min n.since n.span * (edg (q + 1) - 1 - edg q)).tdiv n.span
    else edg q + (min n.since n.span * (edg (q + 1) - 1 - edg q)).tdiv n.span) := by unfold Hid ang; rw [hq]
  generalize edg (q + 1) = b at *
  generalize edg q = a at *
  go_quiet (fail)
  have B3 := below_drewN B2 nq
  clear B2
  have ed : IntKind.i64.wrap (a + b) = a + b := IntWalk.i64_in _ (by omega)
  have eb : IntKind.i64.wrap (b - 1) = b - 1 := IntWalk.i64_in _ (by omega)
  have ea : IntKind.i64.wrap (b - 1 - a) = b - 1 - a := IntWalk.i64_in _ (by omega)
  have cases : n.dir = 0 ∨ (¬ n.dir = 0 ∧ n.span = 0) ∨ (¬ n.dir = 0 ∧ ¬ n.span = 0 ∧ n.dir < 0) ∨ (¬ n.dir = 0 ∧ ¬ n.span = 0 ∧ 0 < n.dir) := by omega
  rcases cases with g0 | ⟨g0, g1⟩ | ⟨g0, g1, g2⟩ | ⟨g0, g1, g2⟩
  · have ES : Hid (ang n = (a + b) / 2) := by unfold Hid; rw [HA.out, if_pos (.inl g0)]
    go_wp2_with fail
    go_ret
    exact ⟨by rw [hN, ES.out]; rfl, B3⟩
  · have ES : Hid (ang n = (a + b) / 2) := by unfold Hid; rw [HA.out, if_pos (.inr g1)]
    go_wp2_with fail
    go_ret
    exact ⟨by rw [hN, ES.out]; rfl, B3⟩
  · have ES : Hid (ang n = b - 1 - (min n.since n.span * (b - 1 - a)).tdiv n.span) := by unfold Hid; rw [HA.out, if_neg (by omega), if_pos g2]
    have d0 : (n.dir == 0) = false := by simp [g0]
    have d1 : (n.span == 0) = false := by simp [g1]
    have hQ := quot_le (a := min n.since n.span) (b := b - 1 - a) (s := n.span) (by omega) (by omega) (by omega) (by omega)
    have eP : IntKind.i64.wrap (min n.since n.span * (b - 1 - a)) = min n.since n.span * (b - 1 - a) := IntWalk.i64_in _ (by have : n.span * (b - 1 - a) ≤ 1048576 * (b - 1 - a) := Int.mul_le_mul_of_nonneg_right h8 (by omega); omega)
    go_wp2_with fail
    go_ret
    exact ⟨by rw [hN, ES.out]; rfl, B3⟩
  · have ES : Hid (ang n = a + (min n.since n.span * (b - 1 - a)).tdiv n.span) := by unfold Hid; rw [HA.out, if_neg (by omega), if_neg (by omega)]
    have d0 : (n.dir == 0) = false := by simp [g0]
    have d1 : (n.span == 0) = false := by simp [g1]
    have hQ := quot_le (a := min n.since n.span) (b := b - 1 - a) (s := n.span) (by omega) (by omega) (by omega) (by omega)
    have eP : IntKind.i64.wrap (min n.since n.span * (b - 1 - a)) = min n.since n.span * (b - 1 - a) := IntWalk.i64_in _ (by have : n.span * (b - 1 - a) ≤ 1048576 * (b - 1 - a) := Int.mul_le_mul_of_nonneg_right h8 (by omega); omega)
    go_wp2_with fail
    go_ret
    exact ⟨by rw [hN, ES.out]; rfl, B3⟩

end Go.Proofs.YtehkmnkbmhldgaaDoor
