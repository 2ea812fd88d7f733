/- The walk of the reference's Step of layer 33. -/
import Derived.Test.YtehkmnkbmhldgaaDoorNorm2
namespace Go.Proofs.YtehkmnkbmhldgaaDoor
open Go.RowKit

set_option maxHeartbeats 1600000 in
theorem rStep_any (s : HS) (c : Int) (w : World) : Calls Tryd.prog 12 #[.agg #[.int .i64 s.sec, .int .i64 s.dir, .int .i64 s.since, .int .i64 s.span, .int .i64 s.bad, .int .i64 s.jump, .bool s.st], .int .i64 c] w fun e w' => e = .returned (.agg #[.int .i64 (stn (nrm s) (secF c)).sec, .int .i64 (stn (nrm s) (secF c)).dir, .int .i64 (stn (nrm s) (secF c)).since, .int .i64 (stn (nrm s) (secF c)).span, .int .i64 (stn (nrm s) (secF c)).bad, .int .i64 (stn (nrm s) (secF c)).jump, .bool (stn (nrm s) (secF c)).st]) ∧ Below w.heap.size w w' := by
  go_enter Tryd.func12, Tryd.ntmps12
  go_wp2_with fail
  (with_reducible refine (rNormal_any s _).mono ?_)
  rintro e w1 ⟨rfl, hb1⟩
  obtain ⟨bS, cS, fS, zS⟩ := ((Blk.new w 23 #[.int .i64 s.sec, .int .i64 s.dir, .int .i64 s.since, .int .i64 s.span, .int .i64 s.bad, .int .i64 s.jump, .bool s.st]).alloc _).next hb1
  obtain ⟨bO, cO, fO, zO⟩ := (Blk.new (w.alloc _) 23 #[.int .i64 0, .int .i64 0, .int .i64 0, .int .i64 0, .int .i64 0, .int .i64 0, .bool false]).next hb1
  simp at bS cS fS zS bO cO fO zO
  have B1 := below_call (below_box (below_box (Below.refl w.heap.size w) _) _) hb1
  have hn := nrm_ok s
  generalize hN : nrm s = n at *
  go_wp2_with fail
  have bS2 : Blk (((((((w1.setCell ⟨w.heap.size, 0, none⟩ (.int .i64 n.sec)).setCell ⟨w.heap.size, 1, none⟩ (.int .i64 n.dir)).setCell ⟨w.heap.size, 2, none⟩ (.int .i64 n.since)).setCell ⟨w.heap.size, 3, none⟩ (.int .i64 n.span)).setCell ⟨w.heap.size, 4, none⟩ (.int .i64 n.bad)).setCell ⟨w.heap.size, 5, none⟩ (.int .i64 n.jump)).setCell ⟨w.heap.size, 6, none⟩ (.bool n.st)) w.heap.size 23 #[.int .i64 n.sec, .int .i64 n.dir, .int .i64 n.since, .int .i64 n.span, .int .i64 n.bad, .int .i64 n.jump, .bool n.st] := ((((((bS.put 0 _).put 1 _).put 2 _).put 3 _).put 4 _).put 5 _).put 6 _
  have bO2 : Blk (((((((w1.setCell ⟨w.heap.size, 0, none⟩ (.int .i64 n.sec)).setCell ⟨w.heap.size, 1, none⟩ (.int .i64 n.dir)).setCell ⟨w.heap.size, 2, none⟩ (.int .i64 n.since)).setCell ⟨w.heap.size, 3, none⟩ (.int .i64 n.span)).setCell ⟨w.heap.size, 4, none⟩ (.int .i64 n.bad)).setCell ⟨w.heap.size, 5, none⟩ (.int .i64 n.jump)).setCell ⟨w.heap.size, 6, none⟩ (.bool n.st)) (w.heap.size + 1) 23 #[.int .i64 0, .int .i64 0, .int .i64 0, .int .i64 0, .int .i64 0, .int .i64 0, .bool false] := ((((((bO.far (p := ⟨w.heap.size, 0, none⟩) (by simp) _).far (p := ⟨w.heap.size, 1, none⟩) (by simp) _).far (p := ⟨w.heap.size, 2, none⟩) (by simp) _).far (p := ⟨w.heap.size, 3, none⟩) (by simp) _).far (p := ⟨w.heap.size, 4, none⟩) (by simp) _).far (p := ⟨w.heap.size, 5, none⟩) (by simp) _).far (p := ⟨w.heap.size, 6, none⟩) (by simp) _
  have B2 : Below w.heap.size w (((((((w1.setCell ⟨w.heap.size, 0, none⟩ (.int .i64 n.sec)).setCell ⟨w.heap.size, 1, none⟩ (.int .i64 n.dir)).setCell ⟨w.heap.size, 2, none⟩ (.int .i64 n.since)).setCell ⟨w.heap.size, 3, none⟩ (.int .i64 n.span)).setCell ⟨w.heap.size, 4, none⟩ (.int .i64 n.bad)).setCell ⟨w.heap.size, 5, none⟩ (.int .i64 n.jump)).setCell ⟨w.heap.size, 6, none⟩ (.bool n.st)) := below_set (below_set (below_set (below_set (below_set (below_set (below_set B1 (Nat.le_refl _) _) (Nat.le_refl _) _) (Nat.le_refl _) _) (Nat.le_refl _) _) (Nat.le_refl _) _) (Nat.le_refl _) _) (Nat.le_refl _) _
  generalize (((((((w1.setCell ⟨w.heap.size, 0, none⟩ (.int .i64 n.sec)).setCell ⟨w.heap.size, 1, none⟩ (.int .i64 n.dir)).setCell ⟨w.heap.size, 2, none⟩ (.int .i64 n.since)).setCell ⟨w.heap.size, 3, none⟩ (.int .i64 n.span)).setCell ⟨w.heap.size, 4, none⟩ (.int .i64 n.bad)).setCell ⟨w.heap.size, 5, none⟩ (.int .i64 n.jump)).setCell ⟨w.heap.size, 6, none⟩ (.bool n.st)) = w2 at bS2 bO2 B2 ⊢
  clear cS fS zS cO fO zO bS bO B1 hb1
  obtain ⟨⟨h1, h2⟩, ⟨h3, h4⟩, ⟨h5, h6⟩, ⟨h7, h8⟩, ⟨h9, h10⟩, h11, h12⟩ := hn
  have eb : IntKind.i64.wrap (n.bad + 1) = n.bad + 1 := IntWalk.i64_in _ (by omega)
  have ei : IntKind.i64.wrap (n.since + 1) = n.since + 1 := IntWalk.i64_in _ (by omega)
  have ej : IntKind.i64.wrap (n.jump + 1) = n.jump + 1 := IntWalk.i64_in _ (by omega)
  have hk := secF_le c
  have RS := Lib.hid fun W => rSector_any c W
  generalize hK : secF c = k at *
  have cases : (k < 0 ∧ n.st = true) ∨ (k < 0 ∧ n.st = false) ∨ (0 ≤ k ∧ n.st = false) ∨ (0 ≤ k ∧ n.st = true ∧ k = n.sec) ∨ (0 ≤ k ∧ n.st = true ∧ ¬ k = n.sec ∧ k = (n.sec + 1) % 6) ∨ (0 ≤ k ∧ n.st = true ∧ ¬ k = n.sec ∧ ¬ k = (n.sec + 1) % 6 ∧ k = (n.sec + 5) % 6) ∨ (0 ≤ k ∧ n.st = true ∧ ¬ k = n.sec ∧ ¬ k = (n.sec + 1) % 6 ∧ ¬ k = (n.sec + 5) % 6) := by
    cases n.st <;> simp <;> omega
  have ek : IntKind.i64.wrap (k - n.sec) = k - n.sec := IntWalk.i64_in _ (by omega)
  (with_reducible refine (RS.out _).mono ?_)
  rintro e w3 ⟨rfl, hb3⟩
  obtain ⟨bS3, cS, fS, zS⟩ := bS2.next hb3
  obtain ⟨bO3, cO, fO, zO⟩ := bO2.next hb3
  simp at cS fS zS cO fO zO
  have B3 := below_call B2 hb3
  clear bS2 bO2 B2 hb3
  rcases cases with ⟨g0, g1⟩ | ⟨g0, g1⟩ | ⟨g0, g1⟩ | ⟨g0, g1, g2⟩ | ⟨g0, g1, g2, g3⟩ | ⟨g0, g1, g2, g3, g4⟩ | ⟨g0, g1, g2, g3, g4⟩
  · have ES : Hid (stn n k = ⟨n.sec, n.dir, min (n.since + 1) 1048576, n.span, n.bad + 1, n.jump, true⟩) := by unfold Hid stn; rw [if_pos g0, if_pos g1, g1]
    go_wp2_with fail
    refine bodyPost_ret (v := .agg #[.int .i64 (n.sec), .int .i64 (n.dir), .int .i64 (min (n.since + 1) 1048576), .int .i64 (n.span), .int .i64 (n.bad + 1), .int .i64 (n.jump), .bool true]) ?_ rfl ⟨by rw [hN, hK, ES.out], ?_⟩
    · simp [results, Tryd.results12, go_sem, cO]
    · repeat' (first | refine below_set ?_ (by omega) _ | with_reducible exact B3)
  · have ES : Hid (stn n k = ⟨n.sec, n.dir, n.since, n.span, n.bad + 1, n.jump, false⟩) := by unfold Hid stn; rw [if_pos g0, if_neg (by simp [g1]), g1]
    go_wp2_with fail
    refine bodyPost_ret (v := .agg #[.int .i64 (n.sec), .int .i64 (n.dir), .int .i64 (n.since), .int .i64 (n.span), .int .i64 (n.bad + 1), .int .i64 (n.jump), .bool false]) ?_ rfl ⟨by rw [hN, hK, ES.out], ?_⟩
    · simp [results, Tryd.results12, go_sem, cO]
    · repeat' (first | refine below_set ?_ (by omega) _ | with_reducible exact B3)
  · have ES : Hid (stn n k = ⟨k, 0, 0, 0, n.bad, n.jump, true⟩) := by unfold Hid stn; rw [if_neg (by omega), if_pos g1]
    go_wp2_with fail
    refine bodyPost_ret (v := .agg #[.int .i64 (k), .int .i64 (0), .int .i64 (0), .int .i64 (0), .int .i64 (n.bad), .int .i64 (n.jump), .bool true]) ?_ rfl ⟨by rw [hN, hK, ES.out], ?_⟩
    · simp [results, Tryd.results12, go_sem, cO]
    · repeat' (first | refine below_set ?_ (by omega) _ | with_reducible exact B3)
  · have ES : Hid (stn n k = ⟨n.sec, n.dir, min (n.since + 1) 1048576, n.span, n.bad, n.jump, true⟩) := by unfold Hid stn; rw [if_neg (by omega), if_neg (by simp [g1]), if_pos g2, g1]
    have m0 : (k - n.sec) % 6 = 0 := by omega
    clear g2
    go_wp2_with (go_at_call 28; (with_reducible refine (mod_any _ _ (by decide) (by decide) _).mono ?_); rintro e w' ⟨rfl, rfl⟩)
    refine bodyPost_ret (v := .agg #[.int .i64 (n.sec), .int .i64 (n.dir), .int .i64 (min (n.since + 1) 1048576), .int .i64 (n.span), .int .i64 (n.bad), .int .i64 (n.jump), .bool true]) ?_ rfl ⟨by rw [hN, hK, ES.out], ?_⟩
    · simp [results, Tryd.results12, go_sem, cO]
    · repeat' (first | refine below_set ?_ (by omega) _ | with_reducible exact B3)
  · by_cases g5 : n.dir = 1
    · have ES : Hid (stn n k = ⟨k, 1, 0, min (n.since + 1) 1048576, n.bad, n.jump, true⟩) := by unfold Hid stn; rw [if_neg (by omega), if_neg (by simp [g1]), if_neg g2, if_pos g3]; unfold mov; rw [if_pos g5, g1]
      have m1 : (k - n.sec) % 6 = 1 := by omega
      clear g2 g3
      go_wp2_with (go_at_call 28; (with_reducible refine (mod_any _ _ (by decide) (by decide) _).mono ?_); rintro e w' ⟨rfl, rfl⟩)
      refine bodyPost_ret (v := .agg #[.int .i64 (k), .int .i64 (1), .int .i64 (0), .int .i64 (min (n.since + 1) 1048576), .int .i64 (n.bad), .int .i64 (n.jump), .bool true]) ?_ rfl ⟨by rw [hN, hK, ES.out], ?_⟩
      · simp [results, Tryd.results12, go_sem, cO]
      · repeat' (first | refine below_set ?_ (by omega) _ | with_reducible exact B3)
    · have ES : Hid (stn n k = ⟨k, 1, 0, 0, n.bad, n.jump, true⟩) := by unfold Hid stn; rw [if_neg (by omega), if_neg (by simp [g1]), if_neg g2, if_pos g3]; unfold mov; rw [if_neg g5, g1]
      have m1 : (k - n.sec) % 6 = 1 := by omega
      clear g2 g3
      go_wp2_with (go_at_call 28; (with_reducible refine (mod_any _ _ (by decide) (by decide) _).mono ?_); rintro e w' ⟨rfl, rfl⟩)
      refine bodyPost_ret (v := .agg #[.int .i64 (k), .int .i64 (1), .int .i64 (0), .int .i64 (0), .int .i64 (n.bad), .int .i64 (n.jump), .bool true]) ?_ rfl ⟨by rw [hN, hK, ES.out], ?_⟩
      · simp [results, Tryd.results12, go_sem, cO]
      · repeat' (first | refine below_set ?_ (by omega) _ | with_reducible exact B3)
  · by_cases g5 : n.dir = -1
    · have ES : Hid (stn n k = ⟨k, -1, 0, min (n.since + 1) 1048576, n.bad, n.jump, true⟩) := by unfold Hid stn; rw [if_neg (by omega), if_neg (by simp [g1]), if_neg g2, if_neg g3, if_pos g4]; unfold mov; rw [if_pos g5, g1]
      have m1 : (k - n.sec) % 6 = 5 := by omega
      clear g2 g3 g4
      go_wp2_with (go_at_call 28; (with_reducible refine (mod_any _ _ (by decide) (by decide) _).mono ?_); rintro e w' ⟨rfl, rfl⟩)
      refine bodyPost_ret (v := .agg #[.int .i64 (k), .int .i64 (-1), .int .i64 (0), .int .i64 (min (n.since + 1) 1048576), .int .i64 (n.bad), .int .i64 (n.jump), .bool true]) ?_ rfl ⟨by rw [hN, hK, ES.out], ?_⟩
      · simp [results, Tryd.results12, go_sem, cO]
      · repeat' (first | refine below_set ?_ (by omega) _ | with_reducible exact B3)
    · have ES : Hid (stn n k = ⟨k, -1, 0, 0, n.bad, n.jump, true⟩) := by unfold Hid stn; rw [if_neg (by omega), if_neg (by simp [g1]), if_neg g2, if_neg g3, if_pos g4]; unfold mov; rw [if_neg g5, g1]
      have m1 : (k - n.sec) % 6 = 5 := by omega
      clear g2 g3 g4
      go_wp2_with (go_at_call 28; (with_reducible refine (mod_any _ _ (by decide) (by decide) _).mono ?_); rintro e w' ⟨rfl, rfl⟩)
      refine bodyPost_ret (v := .agg #[.int .i64 (k), .int .i64 (-1), .int .i64 (0), .int .i64 (0), .int .i64 (n.bad), .int .i64 (n.jump), .bool true]) ?_ rfl ⟨by rw [hN, hK, ES.out], ?_⟩
      · simp [results, Tryd.results12, go_sem, cO]
      · repeat' (first | refine below_set ?_ (by omega) _ | with_reducible exact B3)
  · have ES : Hid (stn n k = ⟨k, 0, 0, 0, n.bad, n.jump + 1, true⟩) := by unfold Hid stn; rw [if_neg (by omega), if_neg (by simp [g1]), if_neg g2, if_neg g3, if_neg g4, g1]
    have m0 : ¬ (k - n.sec) % 6 = 0 := by omega
    have m1 : ¬ (k - n.sec) % 6 = 1 := by omega
    have m5 : ¬ (k - n.sec) % 6 = 5 := by omega
    clear g2 g3 g4
    go_wp2_with (go_at_call 28; (with_reducible refine (mod_any _ _ (by decide) (by decide) _).mono ?_); rintro e w' ⟨rfl, rfl⟩)
    refine bodyPost_ret (v := .agg #[.int .i64 (k), .int .i64 (0), .int .i64 (0), .int .i64 (0), .int .i64 (n.bad), .int .i64 (n.jump + 1), .bool true]) ?_ rfl ⟨by rw [hN, hK, ES.out], ?_⟩
    · simp [results, Tryd.results12, go_sem, cO]
    · repeat' (first | refine below_set ?_ (by omega) _ | with_reducible exact B3)
end Go.Proofs.YtehkmnkbmhldgaaDoor
