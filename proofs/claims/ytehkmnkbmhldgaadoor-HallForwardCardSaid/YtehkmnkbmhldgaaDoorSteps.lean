/- The walks of layer 33's moved and Step, and of the reference's Step. -/
import Derived.Test.YtehkmnkbmhldgaaDoorNorm1
import Derived.Test.YtehkmnkbmhldgaaDoorNorm2
import Derived.Deep.RegionWith
namespace Go.Proofs.YtehkmnkbmhldgaaDoor
open Go.RowKit

theorem Sector_no (c : Int) (h : secF c < 0) (w : World) (T : Tabs w) : Calls Tryd.prog 14 #[.int .i64 c] w fun e w' => e = .returned (.tuple #[.int .i64 0, .iface 33 (.int .i64 2)]) ∧ w = w' := by
  refine (Sector_any c w T).mono ?_
  rintro e w' ⟨rfl, rfl⟩
  rw [if_pos h]
  exact ⟨rfl, rfl⟩
theorem Sector_yes (c : Int) (h : 0 ≤ secF c) (w : World) (T : Tabs w) : Calls Tryd.prog 14 #[.int .i64 c] w fun e w' => e = .returned (.tuple #[.int .i64 (secF c), .nilIface]) ∧ w = w' := by
  refine (Sector_any c w T).mono ?_
  rintro e w' ⟨rfl, rfl⟩
  rw [if_neg (by omega)]
  exact ⟨rfl, rfl⟩
theorem Tabs.put {w : World} (h : Tabs w) {b i : Nat} (hb : 1 < b) (u : Value) : Tabs (w.setCell ⟨b, i, none⟩ u) :=
  ⟨fun j hj => (World.cell?_setCell_far w ⟨b, i, none⟩ ⟨0, j, none⟩ u (by simp; omega)).trans (h.edge j hj), fun j hj => (World.cell?_setCell_far w ⟨b, i, none⟩ ⟨1, j, none⟩ u (by simp; omega)).trans (h.code j hj)⟩

set_option maxHeartbeats 1000000 in
theorem moved_any (s : HS) (k d : Int) (h : 0 ≤ s.since ∧ s.since ≤ 1048576) (w : World) : Calls Tryd.prog 27 #[.agg #[.int .i64 s.sec, .int .i64 s.dir, .int .i64 s.since, .int .i64 s.span, .int .i64 s.bad, .int .i64 s.jump, .bool s.st], .int .i64 k, .int .i64 d] w fun e w' => e = .returned (.agg #[.int .i64 (mov s k d).sec, .int .i64 (mov s k d).dir, .int .i64 (mov s k d).since, .int .i64 (mov s k d).span, .int .i64 (mov s k d).bad, .int .i64 (mov s k d).jump, .bool (mov s k d).st]) ∧ Below w.heap.size w w' := by
  by_cases hd : s.dir = d
  · subst hd
    go_enter Tryd.func27, Tryd.ntmps27
    go_wp2_with fail
    refine bodyPost_ret (v := .agg #[.int .i64 (mov s k s.dir).sec, .int .i64 (mov s k s.dir).dir, .int .i64 (mov s k s.dir).since, .int .i64 (mov s k s.dir).span, .int .i64 (mov s k s.dir).bad, .int .i64 (mov s k s.dir).jump, .bool (mov s k s.dir).st]) ?_ rfl ⟨rfl, ?_⟩
    · simp [results, Tryd.results27, go_sem, mov]
    · exact below_box (below_box (Below.refl w.heap.size w) _) _
  · go_enter Tryd.func27, Tryd.ntmps27
    go_wp2_with fail
    refine bodyPost_ret (v := .agg #[.int .i64 (mov s k d).sec, .int .i64 (mov s k d).dir, .int .i64 (mov s k d).since, .int .i64 (mov s k d).span, .int .i64 (mov s k d).bad, .int .i64 (mov s k d).jump, .bool (mov s k d).st]) ?_ rfl ⟨rfl, ?_⟩
    · simp [results, Tryd.results27, go_sem, mov, hd]
    · exact below_box (below_box (Below.refl w.heap.size w) _) _

set_option maxHeartbeats 1600000 in
theorem Step_any (s : HS) (c : Int) (w : World) (T : Tabs w) : Calls Tryd.prog 11 #[.agg #[.int .i64 s.sec, .int .i64 s.dir, .int .i64 s.since, .int .i64 s.span, .int .i64 s.bad, .int .i64 s.jump, .bool s.st], .int .i64 c] w fun e w' => e = .returned (.agg #[.int .i64 (stn (nrm s) (secF c)).sec, .int .i64 (stn (nrm s) (secF c)).dir, .int .i64 (stn (nrm s) (secF c)).since, .int .i64 (stn (nrm s) (secF c)).span, .int .i64 (stn (nrm s) (secF c)).bad, .int .i64 (stn (nrm s) (secF c)).jump, .bool (stn (nrm s) (secF c)).st]) ∧ Below w.heap.size w w' := by
  go_enter Tryd.func11, Tryd.ntmps11
  go_wp2_with fail
  (with_reducible refine (normal_any s _).mono ?_)
  rintro e w1 ⟨rfl, hb1⟩
  obtain ⟨bS, cS, fS, zS⟩ := ((Blk.new w 23 #[.int .i64 s.sec, .int .i64 s.dir, .int .i64 s.since, .int .i64 s.span, .int .i64 s.bad, .int .i64 s.jump, .bool s.st]).alloc _).next hb1
  obtain ⟨bO, cO, fO, zO⟩ := (Blk.new (w.alloc _) 23 #[.int .i64 0, .int .i64 0, .int .i64 0, .int .i64 0, .int .i64 0, .int .i64 0, .bool false]).next hb1
  simp at bS cS fS zS bO cO fO zO
  have B1 := below_call (below_box (below_box (Below.refl w.heap.size w) _) _) hb1
  have hn := nrm_ok s
  generalize hN : nrm s = n at *
  go_wp2_with fail
  have bS2 : Blk (((((((w1.setCell ⟨w.heap.size, 0, none⟩ (.int .i64 n.sec)).setCell ⟨w.heap.size, 1, none⟩ (.int .i64 n.dir)).setCell ⟨w.heap.size, 2, none⟩ (.int .i64 n.since)).setCell ⟨w.heap.size, 3, none⟩ (.int .i64 n.span)).setCell ⟨w.heap.size, 4, none⟩ (.int .i64 n.bad)).setCell ⟨w.heap.size, 5, none⟩ (.int .i64 n.jump)).setCell ⟨w.heap.size, 6, none⟩ (.bool n.st)) w.heap.size 23 #[.int .i64 n.sec, .int .i64 n.dir, .int .i64 n.since, .int .i64 n.span, .int .i64 n.bad, .int .i64 n.jump, .bool n.st] := ((((((bS.put 0 _).put 1 _).put 2 _).put 3 _).put 4 _).put 5 _).put 6 _
  have bO2 : Blk (((((((w1.setCell ⟨w.heap.size, 0, none⟩ (.int .i64 n.sec)).setCell ⟨w.heap.size, 1, none⟩ (.int .i64 n.dir)).setCell ⟨w.heap.size, 2, none⟩ (.int .i64 n.since)).setCell ⟨w.heap.size, 3, none⟩ (.int .i64 n.span)).setCell ⟨w.heap.size, 4, none⟩ (.int .i64 n.bad)).setCell ⟨w.heap.size, 5, none⟩ (.int .i64 n.jump)).setCell ⟨w.heap.size, 6, none⟩ (.bool n.st)) (w.heap.size + 1) 23 #[.int .i64 0, .int .i64 0, .int .i64 0, .int .i64 0, .int .i64 0, .int .i64 0, .bool false] := ((((((bO.far (p := ⟨w.heap.size, 0, none⟩) (by simp) _).far (p := ⟨w.heap.size, 1, none⟩) (by simp) _).far (p := ⟨w.heap.size, 2, none⟩) (by simp) _).far (p := ⟨w.heap.size, 3, none⟩) (by simp) _).far (p := ⟨w.heap.size, 4, none⟩) (by simp) _).far (p := ⟨w.heap.size, 5, none⟩) (by simp) _).far (p := ⟨w.heap.size, 6, none⟩) (by simp) _
  have B2 : Below w.heap.size w (((((((w1.setCell ⟨w.heap.size, 0, none⟩ (.int .i64 n.sec)).setCell ⟨w.heap.size, 1, none⟩ (.int .i64 n.dir)).setCell ⟨w.heap.size, 2, none⟩ (.int .i64 n.since)).setCell ⟨w.heap.size, 3, none⟩ (.int .i64 n.span)).setCell ⟨w.heap.size, 4, none⟩ (.int .i64 n.bad)).setCell ⟨w.heap.size, 5, none⟩ (.int .i64 n.jump)).setCell ⟨w.heap.size, 6, none⟩ (.bool n.st)) := below_set (below_set (below_set (below_set (below_set (below_set (below_set B1 (Nat.le_refl _) _) (Nat.le_refl _) _) (Nat.le_refl _) _) (Nat.le_refl _) _) (Nat.le_refl _) _) (Nat.le_refl _) _) (Nat.le_refl _) _
  generalize (((((((w1.setCell ⟨w.heap.size, 0, none⟩ (.int .i64 n.sec)).setCell ⟨w.heap.size, 1, none⟩ (.int .i64 n.dir)).setCell ⟨w.heap.size, 2, none⟩ (.int .i64 n.since)).setCell ⟨w.heap.size, 3, none⟩ (.int .i64 n.span)).setCell ⟨w.heap.size, 4, none⟩ (.int .i64 n.bad)).setCell ⟨w.heap.size, 5, none⟩ (.int .i64 n.jump)).setCell ⟨w.heap.size, 6, none⟩ (.bool n.st)) = w2 at bS2 bO2 B2 ⊢
  clear cS fS zS cO fO zO bS bO B1 hb1
  obtain ⟨⟨h1, h2⟩, ⟨h3, h4⟩, ⟨h5, h6⟩, ⟨h7, h8⟩, ⟨h9, h10⟩, h11, h12⟩ := hn
  have eb : IntKind.i64.wrap (n.bad + 1) = n.bad + 1 := IntWalk.i64_in _ (by omega)
  have ei : IntKind.i64.wrap (n.since + 1) = n.since + 1 := IntWalk.i64_in _ (by omega)
  have ej : IntKind.i64.wrap (n.jump + 1) = n.jump + 1 := IntWalk.i64_in _ (by omega)
  have hk := secF_le c
  have T2 := T.below B2
  have e1 : IntKind.i64.wrap (n.sec + 1) = n.sec + 1 := IntWalk.i64_in _ (by omega)
  have e5 : IntKind.i64.wrap (n.sec + 5) = n.sec + 5 := IntWalk.i64_in _ (by omega)
  have SN := Lib.hid fun h => Sector_no c h w2 T2
  have SY := Lib.hid fun h => Sector_yes c h w2 T2
  generalize hK : secF c = k at *
  have cases : (k < 0 ∧ n.st = true) ∨ (k < 0 ∧ n.st = false) ∨ (0 ≤ k ∧ n.st = false) ∨ (0 ≤ k ∧ n.st = true ∧ k = n.sec) ∨ (0 ≤ k ∧ n.st = true ∧ ¬ k = n.sec ∧ k = (n.sec + 1) % 6) ∨ (0 ≤ k ∧ n.st = true ∧ ¬ k = n.sec ∧ ¬ k = (n.sec + 1) % 6 ∧ k = (n.sec + 5) % 6) ∨ (0 ≤ k ∧ n.st = true ∧ ¬ k = n.sec ∧ ¬ k = (n.sec + 1) % 6 ∧ ¬ k = (n.sec + 5) % 6) := by
    cases n.st <;> simp <;> omega
  obtain ⟨cS, fS, zS⟩ := And.intro bS2.cell (And.intro bS2.frozen bS2.lt)
  obtain ⟨cO, fO, zO⟩ := And.intro bO2.cell (And.intro bO2.frozen bO2.lt)
  rcases cases with ⟨g0, g1⟩ | ⟨g0, g1⟩ | ⟨g0, g1⟩ | ⟨g0, g1, g2⟩ | ⟨g0, g1, g2, g3⟩ | ⟨g0, g1, g2, g3, g4⟩ | ⟨g0, g1, g2, g3, g4⟩
  · (with_reducible refine (SN.out g0).mono ?_)
    rintro e w3 ⟨rfl, rfl⟩
    go_wp2_with fail
    refine bodyPost_ret (v := .agg #[.int .i64 (stn n k).sec, .int .i64 (stn n k).dir, .int .i64 (stn n k).since, .int .i64 (stn n k).span, .int .i64 (stn n k).bad, .int .i64 (stn n k).jump, .bool (stn n k).st]) ?_ rfl ⟨by rw [hN, hK], ?_⟩
    · simp [results, Tryd.results11, go_sem, stn, g0, g1, cO]
    · repeat' (first | refine below_set ?_ (by omega) _ | with_reducible exact B2)
  · (with_reducible refine (SN.out g0).mono ?_)
    rintro e w3 ⟨rfl, rfl⟩
    go_wp2_with fail
    refine bodyPost_ret (v := .agg #[.int .i64 (stn n k).sec, .int .i64 (stn n k).dir, .int .i64 (stn n k).since, .int .i64 (stn n k).span, .int .i64 (stn n k).bad, .int .i64 (stn n k).jump, .bool (stn n k).st]) ?_ rfl ⟨by rw [hN, hK], ?_⟩
    · simp [results, Tryd.results11, go_sem, stn, g0, g1, cO]
    · repeat' (first | refine below_set ?_ (by omega) _ | with_reducible exact B2)
  · (with_reducible refine (SY.out g0).mono ?_)
    rintro e w3 ⟨rfl, rfl⟩
    go_wp2_with fail
    refine bodyPost_ret (v := .agg #[.int .i64 (stn n k).sec, .int .i64 (stn n k).dir, .int .i64 (stn n k).since, .int .i64 (stn n k).span, .int .i64 (stn n k).bad, .int .i64 (stn n k).jump, .bool (stn n k).st]) ?_ rfl ⟨by rw [hN, hK], ?_⟩
    · simp [results, Tryd.results11, go_sem, stn, show ¬ k < 0 by omega, g1, cO]
    · repeat' (first | refine below_set ?_ (by omega) _ | with_reducible exact B2)
  · (with_reducible refine (SY.out g0).mono ?_)
    rintro e w3 ⟨rfl, rfl⟩
    go_wp2_with fail
    refine bodyPost_ret (v := .agg #[.int .i64 (stn n k).sec, .int .i64 (stn n k).dir, .int .i64 (stn n k).since, .int .i64 (stn n k).span, .int .i64 (stn n k).bad, .int .i64 (stn n k).jump, .bool (stn n k).st]) ?_ rfl ⟨by rw [hN, hK], ?_⟩
    · simp [results, Tryd.results11, go_sem, stn, g1, g2, cO, show ¬ n.sec < 0 by omega]
    · repeat' (first | refine below_set ?_ (by omega) _ | with_reducible exact B2)
  · (with_reducible refine (SY.out g0).mono ?_)
    rintro e w3 ⟨rfl, rfl⟩
    go_wp2_with fail
    have ES : Hid (stn n k = mov n ((n.sec + 1) % 6) (1)) := by unfold Hid stn; rw [if_neg (by omega), if_neg (by simp [g1]), if_neg g2, if_pos g3, g3]
    have MV := Lib.hid fun W => moved_any n k (1) ⟨h5, h6⟩ W
    rw [g1, g3] at MV
    (with_reducible refine (MV.out _).mono ?_)
    rintro e w4 ⟨rfl, hb4⟩
    obtain ⟨bO4, cO4, fO4, zO4⟩ := bO2.next hb4
    have B4 := below_call B2 hb4
    clear cO fO zO
    simp at cO4 fO4 zO4
    go_wp2_with fail
    refine bodyPost_ret (v := .agg #[.int .i64 (mov n ((n.sec + 1) % 6) (1)).sec, .int .i64 (mov n ((n.sec + 1) % 6) (1)).dir, .int .i64 (mov n ((n.sec + 1) % 6) (1)).since, .int .i64 (mov n ((n.sec + 1) % 6) (1)).span, .int .i64 (mov n ((n.sec + 1) % 6) (1)).bad, .int .i64 (mov n ((n.sec + 1) % 6) (1)).jump, .bool (mov n ((n.sec + 1) % 6) (1)).st]) ?_ rfl ⟨by rw [hN, hK, ES.out], ?_⟩
    · simp [results, Tryd.results11, go_sem, cO4]
    · repeat' (first | refine below_set ?_ (by omega) _ | with_reducible exact B4)
  · (with_reducible refine (SY.out g0).mono ?_)
    rintro e w3 ⟨rfl, rfl⟩
    go_wp2_with fail
    have ES : Hid (stn n k = mov n ((n.sec + 5) % 6) (-1)) := by unfold Hid stn; rw [if_neg (by omega), if_neg (by simp [g1]), if_neg g2, if_neg g3, if_pos g4, g4]
    have MV := Lib.hid fun W => moved_any n k (-1) ⟨h5, h6⟩ W
    rw [g1, g4] at MV
    (with_reducible refine (MV.out _).mono ?_)
    rintro e w4 ⟨rfl, hb4⟩
    obtain ⟨bO4, cO4, fO4, zO4⟩ := bO2.next hb4
    have B4 := below_call B2 hb4
    clear cO fO zO
    simp at cO4 fO4 zO4
    go_wp2_with fail
    refine bodyPost_ret (v := .agg #[.int .i64 (mov n ((n.sec + 5) % 6) (-1)).sec, .int .i64 (mov n ((n.sec + 5) % 6) (-1)).dir, .int .i64 (mov n ((n.sec + 5) % 6) (-1)).since, .int .i64 (mov n ((n.sec + 5) % 6) (-1)).span, .int .i64 (mov n ((n.sec + 5) % 6) (-1)).bad, .int .i64 (mov n ((n.sec + 5) % 6) (-1)).jump, .bool (mov n ((n.sec + 5) % 6) (-1)).st]) ?_ rfl ⟨by rw [hN, hK, ES.out], ?_⟩
    · simp [results, Tryd.results11, go_sem, cO4]
    · repeat' (first | refine below_set ?_ (by omega) _ | with_reducible exact B4)
  · (with_reducible refine (SY.out g0).mono ?_)
    rintro e w3 ⟨rfl, rfl⟩
    go_wp2_with fail
    refine bodyPost_ret (v := .agg #[.int .i64 (stn n k).sec, .int .i64 (stn n k).dir, .int .i64 (stn n k).since, .int .i64 (stn n k).span, .int .i64 (stn n k).bad, .int .i64 (stn n k).jump, .bool (stn n k).st]) ?_ rfl ⟨by rw [hN, hK], ?_⟩
    · simp [results, Tryd.results11, go_sem, stn, show ¬ k < 0 by omega, g1, g2, g3, g4, cO]
    · repeat' (first | refine below_set ?_ (by omega) _ | with_reducible exact B2)

end Go.Proofs.YtehkmnkbmhldgaaDoor
