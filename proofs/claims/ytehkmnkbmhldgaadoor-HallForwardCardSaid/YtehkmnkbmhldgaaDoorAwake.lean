/- The walks of layer 33's awake and of HallSteps. -/
import Derived.Test.YtehkmnkbmhldgaaDoorAngle
import Derived.Test.YtehkmnkbmhldgaaDoorSteps
import Derived.Test.YtehkmnkbmhldgaaDoorRStep
import Derived.Test.YtehkmnkbmhldgaaDoorKeep
namespace Go.Proofs.YtehkmnkbmhldgaaDoor
open Go.RowKit

theorem st0 (W : World) (T : Tabs W) : Calls Tryd.prog 11 #[.agg #[.int .i64 0, .int .i64 0, .int .i64 0, .int .i64 0, .int .i64 0, .int .i64 0, .bool false], .int .i64 5] W fun e w' => e = .returned (.agg #[.int .i64 0, .int .i64 0, .int .i64 0, .int .i64 0, .int .i64 0, .int .i64 0, .bool true]) ∧ Below W.heap.size W w' := by
  have e : stn (nrm ⟨0, 0, 0, 0, 0, 0, false⟩) (secF 5) = ⟨0, 0, 0, 0, 0, 0, true⟩ := by kernel_rfl
  have h := Step_any ⟨0, 0, 0, 0, 0, 0, false⟩ 5 W T
  rw [e] at h
  exact h

theorem st1 (W : World) (T : Tabs W) : Calls Tryd.prog 11 #[.agg #[.int .i64 0, .int .i64 0, .int .i64 0, .int .i64 0, .int .i64 0, .int .i64 0, .bool true], .int .i64 4] W fun e w' => e = .returned (.agg #[.int .i64 1, .int .i64 1, .int .i64 0, .int .i64 0, .int .i64 0, .int .i64 0, .bool true]) ∧ Below W.heap.size W w' := by
  have e : stn (nrm ⟨0, 0, 0, 0, 0, 0, true⟩) (secF 4) = ⟨1, 1, 0, 0, 0, 0, true⟩ := by kernel_rfl
  have h := Step_any ⟨0, 0, 0, 0, 0, 0, true⟩ 4 W T
  rw [e] at h
  exact h

theorem st2 (W : World) (T : Tabs W) : Calls Tryd.prog 11 #[.agg #[.int .i64 1, .int .i64 1, .int .i64 0, .int .i64 0, .int .i64 0, .int .i64 0, .bool true], .int .i64 4] W fun e w' => e = .returned (.agg #[.int .i64 1, .int .i64 1, .int .i64 1, .int .i64 0, .int .i64 0, .int .i64 0, .bool true]) ∧ Below W.heap.size W w' := by
  have e : stn (nrm ⟨1, 1, 0, 0, 0, 0, true⟩) (secF 4) = ⟨1, 1, 1, 0, 0, 0, true⟩ := by kernel_rfl
  have h := Step_any ⟨1, 1, 0, 0, 0, 0, true⟩ 4 W T
  rw [e] at h
  exact h

theorem st3 (W : World) (T : Tabs W) : Calls Tryd.prog 11 #[.agg #[.int .i64 1, .int .i64 1, .int .i64 1, .int .i64 0, .int .i64 0, .int .i64 0, .bool true], .int .i64 4] W fun e w' => e = .returned (.agg #[.int .i64 1, .int .i64 1, .int .i64 2, .int .i64 0, .int .i64 0, .int .i64 0, .bool true]) ∧ Below W.heap.size W w' := by
  have e : stn (nrm ⟨1, 1, 1, 0, 0, 0, true⟩) (secF 4) = ⟨1, 1, 2, 0, 0, 0, true⟩ := by kernel_rfl
  have h := Step_any ⟨1, 1, 1, 0, 0, 0, true⟩ 4 W T
  rw [e] at h
  exact h

theorem st4 (W : World) (T : Tabs W) : Calls Tryd.prog 11 #[.agg #[.int .i64 1, .int .i64 1, .int .i64 2, .int .i64 0, .int .i64 0, .int .i64 0, .bool true], .int .i64 6] W fun e w' => e = .returned (.agg #[.int .i64 2, .int .i64 1, .int .i64 0, .int .i64 3, .int .i64 0, .int .i64 0, .bool true]) ∧ Below W.heap.size W w' := by
  have e : stn (nrm ⟨1, 1, 2, 0, 0, 0, true⟩) (secF 6) = ⟨2, 1, 0, 3, 0, 0, true⟩ := by kernel_rfl
  have h := Step_any ⟨1, 1, 2, 0, 0, 0, true⟩ 6 W T
  rw [e] at h
  exact h

theorem an3 (W : World) (T : Tabs W) : Calls Tryd.prog 21 #[.agg #[.int .i64 1, .int .i64 1, .int .i64 2, .int .i64 0, .int .i64 0, .int .i64 0, .bool true]] W fun e w' => e = .returned (.int .i64 16384) ∧ Below W.heap.size W w' := by
  have e : ang (nrm ⟨1, 1, 2, 0, 0, 0, true⟩) = 16384 := by kernel_rfl
  have h := Angle_any ⟨1, 1, 2, 0, 0, 0, true⟩ W T
  rw [e] at h
  exact h

theorem an4 (W : World) (T : Tabs W) : Calls Tryd.prog 21 #[.agg #[.int .i64 2, .int .i64 1, .int .i64 0, .int .i64 3, .int .i64 0, .int .i64 0, .bool true]] W fun e w' => e = .returned (.int .i64 21846) ∧ Below W.heap.size W w' := by
  have e : ang (nrm ⟨2, 1, 0, 3, 0, 0, true⟩) = 21846 := by kernel_rfl
  have h := Angle_any ⟨2, 1, 0, 3, 0, 0, true⟩ W T
  rw [e] at h
  exact h

/-- The state behind k rounds of the example's loop. -/
def exRow : Nat → Array Value
  | 0 => #[.int .i64 0, .int .i64 0, .int .i64 0, .int .i64 0, .int .i64 0, .int .i64 0, .bool true]
  | 1 => #[.int .i64 1, .int .i64 1, .int .i64 0, .int .i64 0, .int .i64 0, .int .i64 0, .bool true]
  | 2 => #[.int .i64 1, .int .i64 1, .int .i64 1, .int .i64 0, .int .i64 0, .int .i64 0, .bool true]
  | _ => #[.int .i64 1, .int .i64 1, .int .i64 2, .int .i64 0, .int .i64 0, .int .i64 0, .bool true]

set_option maxHeartbeats 1600000 in
theorem awake_any (w : World) (T : Tabs w) : Calls Tryd.prog 10 #[] w fun e w' => e = .returned (.bool true) ∧ Below w.heap.size w w' := by
  go_enter Tryd.func10, Tryd.ntmps10
  go_wp2_with fail
  (with_reducible refine (st0 _ T).mono ?_)
  rintro e w1 ⟨rfl, hb1⟩
  have hz := hb1.size
  go_wp2_with fail
  go_loopw [2] (fun i wr => ∃ k : Nat, k ≤ 3 ∧ i = .int .i64 k ∧ Blk wr w1.heap.size 23 (exRow k) ∧ Below w.heap.size w wr)
    (fun i _ => 3 - (intOf i).toNat)
  case atStart => exact ⟨0, by omega, rfl, Blk.new w1 _ _, below_box hb1 _⟩
  case round =>
    obtain ⟨k, hk, rfl, bR, B⟩ := hrel
    have hz := B.size
    by_cases h3 : k = 3
    · subst h3
      have bS : Blk wr w1.heap.size 23 #[.int .i64 1, .int .i64 1, .int .i64 2, .int .i64 0, .int .i64 0, .int .i64 0, .bool true] := bR
      obtain ⟨cS, fS, zS⟩ := And.intro bS.cell (And.intro bS.frozen bS.lt)
      go_wp2_with fail
      (with_reducible refine (st4 _ (T.below B)).mono ?_)
      rintro e w2 ⟨rfl, hb2⟩
      obtain ⟨bS2, cS2, fS2, zS2⟩ := bS.next hb2
      have B2 := below_call B hb2
      clear cS fS zS
      have hz2 := hb2.size
      go_wp2_with fail
      (with_reducible refine (an3 _ (T.below (below_box B2 _))).mono ?_)
      rintro e w3 ⟨rfl, hb3⟩
      obtain ⟨bT3, cT3, fT3, zT3⟩ := (Blk.new w2 23 #[.int .i64 2, .int .i64 1, .int .i64 0, .int .i64 3, .int .i64 0, .int .i64 0, .bool true]).next hb3
      have B3 := below_call (below_box B2 _) hb3
      simp at cT3 zT3
      go_wp2_with fail
      (with_reducible refine (an4 _ (T.below B3)).mono ?_)
      rintro e w4 ⟨rfl, hb4⟩
      have B4 := below_call B3 hb4
      go_wp2_with fail
      go_ret
      exact ⟨rfl, B4⟩
    · have : k = 0 ∨ k = 1 ∨ k = 2 := by omega
      rcases this with rfl | rfl | rfl
      · have bS : Blk wr w1.heap.size 23 #[.int .i64 0, .int .i64 0, .int .i64 0, .int .i64 0, .int .i64 0, .int .i64 0, .bool true] := bR
        obtain ⟨cS, fS, zS⟩ := And.intro bS.cell (And.intro bS.frozen bS.lt)
        go_wp2_with fail
        (with_reducible refine (st1 _ (T.below B)).mono ?_)
        rintro e w2 ⟨rfl, hb2⟩
        obtain ⟨bS2, cS2, fS2, zS2⟩ := bS.next hb2
        have B2 := below_call B hb2
        clear cS fS zS
        go_wp2_with fail
        exact ⟨⟨1, by omega, by go_num, (((((((bS2.put 0 _).put 1 _).put 2 _).put 3 _).put 4 _).put 5 _).put 6 _ : _), by repeat' (first | refine below_set ?_ (by omega) _ | with_reducible exact B2)⟩, by simp [intOf]⟩
      · have bS : Blk wr w1.heap.size 23 #[.int .i64 1, .int .i64 1, .int .i64 0, .int .i64 0, .int .i64 0, .int .i64 0, .bool true] := bR
        obtain ⟨cS, fS, zS⟩ := And.intro bS.cell (And.intro bS.frozen bS.lt)
        go_wp2_with fail
        (with_reducible refine (st2 _ (T.below B)).mono ?_)
        rintro e w2 ⟨rfl, hb2⟩
        obtain ⟨bS2, cS2, fS2, zS2⟩ := bS.next hb2
        have B2 := below_call B hb2
        clear cS fS zS
        go_wp2_with fail
        exact ⟨⟨2, by omega, by go_num, (((((((bS2.put 0 _).put 1 _).put 2 _).put 3 _).put 4 _).put 5 _).put 6 _ : _), by repeat' (first | refine below_set ?_ (by omega) _ | with_reducible exact B2)⟩, by simp [intOf]⟩
      · have bS : Blk wr w1.heap.size 23 #[.int .i64 1, .int .i64 1, .int .i64 1, .int .i64 0, .int .i64 0, .int .i64 0, .bool true] := bR
        obtain ⟨cS, fS, zS⟩ := And.intro bS.cell (And.intro bS.frozen bS.lt)
        go_wp2_with fail
        (with_reducible refine (st3 _ (T.below B)).mono ?_)
        rintro e w2 ⟨rfl, hb2⟩
        obtain ⟨bS2, cS2, fS2, zS2⟩ := bS.next hb2
        have B2 := below_call B hb2
        clear cS fS zS
        go_wp2_with fail
        exact ⟨⟨3, by omega, by go_num, (((((((bS2.put 0 _).put 1 _).put 2 _).put 3 _).put 4 _).put 5 _).put 6 _ : _), by repeat' (first | refine below_set ?_ (by omega) _ | with_reducible exact B2)⟩, by simp [intOf]⟩


end Go.Proofs.YtehkmnkbmhldgaaDoor
