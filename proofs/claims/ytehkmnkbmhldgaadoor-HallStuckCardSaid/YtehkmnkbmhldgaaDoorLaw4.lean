/- The walk of HallStuck. -/
import Derived.Test.YtehkmnkbmhldgaaDoorPlain4
namespace Go.Proofs.YtehkmnkbmhldgaaDoor
open Go.RowKit

set_option maxHeartbeats 4000000 in
theorem stuck_law (l : Int) (v : Bool) (x : Int) (hl : 0 ≤ l) (w : World) (T : Tabs w) : Calls Tryd.prog 6 #[.int .u8 l, .bool v, .int .i64 x] w fun e w' => e = .returned (.bool true) ∧ Below w.heap.size w w' := by
  have hx : -1099511627776 ≤ clp x (-1099511627776) 1099511627776 ∧ clp x (-1099511627776) 1099511627776 ≤ 1099511627776 := by unfold clp; omega
  have three : l % 3 = 0 ∨ l % 3 = 1 ∨ l % 3 = 2 := by omega
  rcases three with h3 | h3 | h3
  · have er : l.tmod 3 = 0 := by rw [Int.tmod_eq_emod_of_nonneg hl]; exact h3
    go_enter Tryd.func6, Tryd.ntmps6
    go_wp2_with fail
    (with_reducible refine (awake_any _ T).mono ?_)
    rintro e w1 ⟨rfl, hb1⟩
    have hz := hb1.size
    go_wp2_with (go_at_call 18; (with_reducible refine (cClip_any _ _ _ _).mono ?_); rintro e w' ⟨rfl, rfl⟩)
    generalize clp x (-1099511627776) 1099511627776 = a at *
    go_loopw [9, 10] (fun b i wr => ∃ (k : Nat) (s : HS), k ≤ 12 ∧ i = .int .i64 k ∧ b = .int .i64 s.bad ∧ s.ok ∧ s.bad ≤ (k : Int) ∧ s.jump ≤ (k : Int) ∧ Hid (∀ j, j < k → secF (stuckAt 1 v a j) < 0 → 0 < s.bad) ∧ Blk wr w1.heap.size 23 #[.int .i64 s.sec, .int .i64 s.dir, .int .i64 s.since, .int .i64 s.span, .int .i64 s.bad, .int .i64 s.jump, .bool s.st] ∧ Below w.heap.size w wr)
      (fun b i _ => 12 - (intOf i).toNat)
    case atStart => exact ⟨0, HS.zero, by omega, rfl, rfl, by unfold HS.ok HS.zero; simp only; omega, by decide, by decide, (fun j hj => absurd hj (by omega)), Blk.new w1 _ _, below_box hb1 _⟩
    case round =>
      obtain ⟨k, s, hk, rfl, rfl, ok, hb, hj, HH, bS, B⟩ := hrel
      have hz := B.size
      obtain ⟨cS, fS, zS⟩ := And.intro bS.cell (And.intro bS.frozen bS.lt)
      have ok' := ok
      obtain ⟨_, _, _, _, ⟨h9, h10⟩, h11, h12⟩ := ok'
      by_cases hk12 : k = 12
      · subst hk12
        obtain ⟨i, hi, hs⟩ := stuck_hit 1 v a (by decide)
        have hpos := HH.out i hi hs
        clear hs
        go_wp2_with fail
        go_ret
        exact ⟨ret_bool (by simp), B⟩
      · obtain ⟨y, hY⟩ : ∃ y, codeF (a + (k : Int) * 5461) = y := ⟨_, rfl⟩
        have CO := Code_any (a + (k : Int) * 5461)
        rw [hY] at CO
        have CO := Lib.hid CO
        have hf := stuck_fits ⟨secN ((a + (k : Int) * 5461) % 65536), secN_lt _⟩ ⟨0, by decide⟩
        change -7 ≤ bits .or .i64 (codeF (a + (k : Int) * 5461)) 1 ∧ bits .or .i64 (codeF (a + (k : Int) * 5461)) 1 ≤ 7 at hf
        rw [hY] at hf
        obtain ⟨X, hX⟩ : ∃ X, bits .or .i64 y 1 = X := ⟨_, rfl⟩
        rw [hX] at hf
        have e1 : IntKind.i64.wrap ((k : Int) * 5461) = (k : Int) * 5461 := IntWalk.i64_in _ (by omega)
        have e2 : IntKind.i64.wrap (a + (k : Int) * 5461) = a + (k : Int) * 5461 := IntWalk.i64_in _ (by omega)
        have e3 : IntKind.i64.wrap (X - 1) = X - 1 := IntWalk.i64_in _ (by omega)
        cases v
        · by_cases hs : secF (X - 1) < 0
          · have hc : stuckAt 1 false a k = (X - 1) := by unfold stuckAt stuckC; rw [hY]; simp [hX]
            have ok2 := stn_ok (k := secF (X - 1)) ok (secF_le _).2 (by omega) (by omega)
            have bad2 := stn_bad s (secF (X - 1))
            have jump2 := stn_jump s (secF (X - 1))
            rw [if_pos hs] at bad2
            have SA := Step_any s (X - 1)
            rw [nrm_of_ok ok] at SA
            obtain ⟨s2, hs2⟩ : ∃ s2, stn s (secF (X - 1)) = s2 := ⟨_, rfl⟩
            rw [hs2] at SA ok2 bad2 jump2
            clear hs2
            have SA := Lib.hid SA
            have H2 : Hid (∀ j, j < k + 1 → secF (stuckAt 1 false a j) < 0 → 0 < s2.bad) := fun j hj hn => by
              rcases Nat.lt_succ_iff_lt_or_eq.1 hj with h | rfl
              · have := HH.out j h hn
                omega
              · rw [hc] at hn
                omega
            have SN := Lib.hid (Sector_no (X - 1) hs)
            have hbad : Value.int .i64 s2.bad = .int .i64 (s.bad + 1) := by rw [bad2]
            have HB := Lib.hid hbad
            have B2 := Lib.hid bad2
            have r1 : s2.bad ≤ ((k + 1 : Nat) : Int) := by omega
            have r2 : s2.jump ≤ ((k + 1 : Nat) : Int) := by omega
            have RR := Lib.hid (And.intro r1 r2)
            clear hc HH hbad bad2 jump2 r1 r2
            have e4 : IntKind.i64.wrap (s.bad + 1) = s.bad + 1 := IntWalk.i64_in _ (by omega)
            go_wp2_with fail
            (with_reducible refine (CO.out _ (T.below B)).mono ?_)
            rintro e w' ⟨rfl, rfl⟩
            go_wp2_with fail
            (with_reducible refine (SN.out _ (T.below B)).mono ?_)
            rintro e w' ⟨rfl, rfl⟩
            go_wp2_with fail
            (with_reducible refine (SA.out _ (T.below B)).mono ?_)
            rintro e w3 ⟨rfl, hb3⟩
            obtain ⟨bS3, cS3, fS3, zS3⟩ := bS.next hb3
            have B3 := below_call B hb3
            clear cS fS zS
            go_wp2_with fail
            exact ⟨⟨k + 1, s2, by omega, by go_num, HB.out.symm, ok2, RR.out.1, RR.out.2, H2, (((((((bS3).put 0 _).put 1 _).put 2 _).put 3 _).put 4 _).put 5 _).put 6 _, by repeat' (first | refine below_set ?_ (by omega) _ | with_reducible exact B3)⟩, by simp [intOf]; omega⟩
          · have hc : stuckAt 1 false a k = (X - 1) := by unfold stuckAt stuckC; rw [hY]; simp [hX]
            have ok2 := stn_ok (k := secF (X - 1)) ok (secF_le _).2 (by omega) (by omega)
            have bad2 := stn_bad s (secF (X - 1))
            have jump2 := stn_jump s (secF (X - 1))
            rw [if_neg hs] at bad2
            have SA := Step_any s (X - 1)
            rw [nrm_of_ok ok] at SA
            obtain ⟨s2, hs2⟩ : ∃ s2, stn s (secF (X - 1)) = s2 := ⟨_, rfl⟩
            rw [hs2] at SA ok2 bad2 jump2
            clear hs2
            have SA := Lib.hid SA
            have H2 : Hid (∀ j, j < k + 1 → secF (stuckAt 1 false a j) < 0 → 0 < s2.bad) := fun j hj hn => by
              rcases Nat.lt_succ_iff_lt_or_eq.1 hj with h | rfl
              · have := HH.out j h hn
                omega
              · rw [hc] at hn
                omega
            have SN := Lib.hid (Sector_yes (X - 1) (by omega))
            have hbad : Value.int .i64 s2.bad = .int .i64 s.bad := by rw [bad2]
            have HB := Lib.hid hbad
            have B2 := Lib.hid bad2
            have r1 : s2.bad ≤ ((k + 1 : Nat) : Int) := by omega
            have r2 : s2.jump ≤ ((k + 1 : Nat) : Int) := by omega
            have RR := Lib.hid (And.intro r1 r2)
            clear hc HH hbad bad2 jump2 r1 r2
            have e4 : IntKind.i64.wrap (s.bad + 1) = s.bad + 1 := IntWalk.i64_in _ (by omega)
            go_wp2_with fail
            (with_reducible refine (CO.out _ (T.below B)).mono ?_)
            rintro e w' ⟨rfl, rfl⟩
            go_wp2_with fail
            (with_reducible refine (SN.out _ (T.below B)).mono ?_)
            rintro e w' ⟨rfl, rfl⟩
            go_wp2_with fail
            (with_reducible refine (SA.out _ (T.below B)).mono ?_)
            rintro e w3 ⟨rfl, hb3⟩
            obtain ⟨bS3, cS3, fS3, zS3⟩ := bS.next hb3
            have B3 := below_call B hb3
            clear cS fS zS
            go_wp2_with fail
            exact ⟨⟨k + 1, s2, by omega, by go_num, HB.out.symm, ok2, RR.out.1, RR.out.2, H2, (((((((bS3).put 0 _).put 1 _).put 2 _).put 3 _).put 4 _).put 5 _).put 6 _, by repeat' (first | refine below_set ?_ (by omega) _ | with_reducible exact B3)⟩, by simp [intOf]; omega⟩
        · by_cases hs : secF X < 0
          · have hc : stuckAt 1 true a k = X := by unfold stuckAt stuckC; rw [hY]; simp [hX]
            have ok2 := stn_ok (k := secF X) ok (secF_le _).2 (by omega) (by omega)
            have bad2 := stn_bad s (secF X)
            have jump2 := stn_jump s (secF X)
            rw [if_pos hs] at bad2
            have SA := Step_any s X
            rw [nrm_of_ok ok] at SA
            obtain ⟨s2, hs2⟩ : ∃ s2, stn s (secF X) = s2 := ⟨_, rfl⟩
            rw [hs2] at SA ok2 bad2 jump2
            clear hs2
            have SA := Lib.hid SA
            have H2 : Hid (∀ j, j < k + 1 → secF (stuckAt 1 true a j) < 0 → 0 < s2.bad) := fun j hj hn => by
              rcases Nat.lt_succ_iff_lt_or_eq.1 hj with h | rfl
              · have := HH.out j h hn
                omega
              · rw [hc] at hn
                omega
            have SN := Lib.hid (Sector_no X hs)
            have hbad : Value.int .i64 s2.bad = .int .i64 (s.bad + 1) := by rw [bad2]
            have HB := Lib.hid hbad
            have B2 := Lib.hid bad2
            have r1 : s2.bad ≤ ((k + 1 : Nat) : Int) := by omega
            have r2 : s2.jump ≤ ((k + 1 : Nat) : Int) := by omega
            have RR := Lib.hid (And.intro r1 r2)
            clear hc HH hbad bad2 jump2 r1 r2
            have e4 : IntKind.i64.wrap (s.bad + 1) = s.bad + 1 := IntWalk.i64_in _ (by omega)
            go_wp2_with fail
            (with_reducible refine (CO.out _ (T.below B)).mono ?_)
            rintro e w' ⟨rfl, rfl⟩
            go_wp2_with fail
            (with_reducible refine (SN.out _ (T.below B)).mono ?_)
            rintro e w' ⟨rfl, rfl⟩
            go_wp2_with fail
            (with_reducible refine (SA.out _ (T.below B)).mono ?_)
            rintro e w3 ⟨rfl, hb3⟩
            obtain ⟨bS3, cS3, fS3, zS3⟩ := bS.next hb3
            have B3 := below_call B hb3
            clear cS fS zS
            go_wp2_with fail
            exact ⟨⟨k + 1, s2, by omega, by go_num, HB.out.symm, ok2, RR.out.1, RR.out.2, H2, (((((((bS3).put 0 _).put 1 _).put 2 _).put 3 _).put 4 _).put 5 _).put 6 _, by repeat' (first | refine below_set ?_ (by omega) _ | with_reducible exact B3)⟩, by simp [intOf]; omega⟩
          · have hc : stuckAt 1 true a k = X := by unfold stuckAt stuckC; rw [hY]; simp [hX]
            have ok2 := stn_ok (k := secF X) ok (secF_le _).2 (by omega) (by omega)
            have bad2 := stn_bad s (secF X)
            have jump2 := stn_jump s (secF X)
            rw [if_neg hs] at bad2
            have SA := Step_any s X
            rw [nrm_of_ok ok] at SA
            obtain ⟨s2, hs2⟩ : ∃ s2, stn s (secF X) = s2 := ⟨_, rfl⟩
            rw [hs2] at SA ok2 bad2 jump2
            clear hs2
            have SA := Lib.hid SA
            have H2 : Hid (∀ j, j < k + 1 → secF (stuckAt 1 true a j) < 0 → 0 < s2.bad) := fun j hj hn => by
              rcases Nat.lt_succ_iff_lt_or_eq.1 hj with h | rfl
              · have := HH.out j h hn
                omega
              · rw [hc] at hn
                omega
            have SN := Lib.hid (Sector_yes X (by omega))
            have hbad : Value.int .i64 s2.bad = .int .i64 s.bad := by rw [bad2]
            have HB := Lib.hid hbad
            have B2 := Lib.hid bad2
            have r1 : s2.bad ≤ ((k + 1 : Nat) : Int) := by omega
            have r2 : s2.jump ≤ ((k + 1 : Nat) : Int) := by omega
            have RR := Lib.hid (And.intro r1 r2)
            clear hc HH hbad bad2 jump2 r1 r2
            have e4 : IntKind.i64.wrap (s.bad + 1) = s.bad + 1 := IntWalk.i64_in _ (by omega)
            go_wp2_with fail
            (with_reducible refine (CO.out _ (T.below B)).mono ?_)
            rintro e w' ⟨rfl, rfl⟩
            go_wp2_with fail
            (with_reducible refine (SN.out _ (T.below B)).mono ?_)
            rintro e w' ⟨rfl, rfl⟩
            go_wp2_with fail
            (with_reducible refine (SA.out _ (T.below B)).mono ?_)
            rintro e w3 ⟨rfl, hb3⟩
            obtain ⟨bS3, cS3, fS3, zS3⟩ := bS.next hb3
            have B3 := below_call B hb3
            clear cS fS zS
            go_wp2_with fail
            exact ⟨⟨k + 1, s2, by omega, by go_num, HB.out.symm, ok2, RR.out.1, RR.out.2, H2, (((((((bS3).put 0 _).put 1 _).put 2 _).put 3 _).put 4 _).put 5 _).put 6 _, by repeat' (first | refine below_set ?_ (by omega) _ | with_reducible exact B3)⟩, by simp [intOf]; omega⟩
  · have er : l.tmod 3 = 1 := by rw [Int.tmod_eq_emod_of_nonneg hl]; exact h3
    go_enter Tryd.func6, Tryd.ntmps6
    go_wp2_with fail
    (with_reducible refine (awake_any _ T).mono ?_)
    rintro e w1 ⟨rfl, hb1⟩
    have hz := hb1.size
    go_wp2_with (go_at_call 18; (with_reducible refine (cClip_any _ _ _ _).mono ?_); rintro e w' ⟨rfl, rfl⟩)
    generalize clp x (-1099511627776) 1099511627776 = a at *
    go_loopw [9, 10] (fun b i wr => ∃ (k : Nat) (s : HS), k ≤ 12 ∧ i = .int .i64 k ∧ b = .int .i64 s.bad ∧ s.ok ∧ s.bad ≤ (k : Int) ∧ s.jump ≤ (k : Int) ∧ Hid (∀ j, j < k → secF (stuckAt 2 v a j) < 0 → 0 < s.bad) ∧ Blk wr w1.heap.size 23 #[.int .i64 s.sec, .int .i64 s.dir, .int .i64 s.since, .int .i64 s.span, .int .i64 s.bad, .int .i64 s.jump, .bool s.st] ∧ Below w.heap.size w wr)
      (fun b i _ => 12 - (intOf i).toNat)
    case atStart => exact ⟨0, HS.zero, by omega, rfl, rfl, by unfold HS.ok HS.zero; simp only; omega, by decide, by decide, (fun j hj => absurd hj (by omega)), Blk.new w1 _ _, below_box hb1 _⟩
    case round =>
      obtain ⟨k, s, hk, rfl, rfl, ok, hb, hj, HH, bS, B⟩ := hrel
      have hz := B.size
      obtain ⟨cS, fS, zS⟩ := And.intro bS.cell (And.intro bS.frozen bS.lt)
      have ok' := ok
      obtain ⟨_, _, _, _, ⟨h9, h10⟩, h11, h12⟩ := ok'
      by_cases hk12 : k = 12
      · subst hk12
        obtain ⟨i, hi, hs⟩ := stuck_hit 2 v a (by decide)
        have hpos := HH.out i hi hs
        clear hs
        go_wp2_with fail
        go_ret
        exact ⟨ret_bool (by simp), B⟩
      · obtain ⟨y, hY⟩ : ∃ y, codeF (a + (k : Int) * 5461) = y := ⟨_, rfl⟩
        have CO := Code_any (a + (k : Int) * 5461)
        rw [hY] at CO
        have CO := Lib.hid CO
        have hf := stuck_fits ⟨secN ((a + (k : Int) * 5461) % 65536), secN_lt _⟩ ⟨1, by decide⟩
        change -7 ≤ bits .or .i64 (codeF (a + (k : Int) * 5461)) 2 ∧ bits .or .i64 (codeF (a + (k : Int) * 5461)) 2 ≤ 7 at hf
        rw [hY] at hf
        obtain ⟨X, hX⟩ : ∃ X, bits .or .i64 y 2 = X := ⟨_, rfl⟩
        rw [hX] at hf
        have e1 : IntKind.i64.wrap ((k : Int) * 5461) = (k : Int) * 5461 := IntWalk.i64_in _ (by omega)
        have e2 : IntKind.i64.wrap (a + (k : Int) * 5461) = a + (k : Int) * 5461 := IntWalk.i64_in _ (by omega)
        have e3 : IntKind.i64.wrap (X - 2) = X - 2 := IntWalk.i64_in _ (by omega)
        cases v
        · by_cases hs : secF (X - 2) < 0
          · have hc : stuckAt 2 false a k = (X - 2) := by unfold stuckAt stuckC; rw [hY]; simp [hX]
            have ok2 := stn_ok (k := secF (X - 2)) ok (secF_le _).2 (by omega) (by omega)
            have bad2 := stn_bad s (secF (X - 2))
            have jump2 := stn_jump s (secF (X - 2))
            rw [if_pos hs] at bad2
            have SA := Step_any s (X - 2)
            rw [nrm_of_ok ok] at SA
            obtain ⟨s2, hs2⟩ : ∃ s2, stn s (secF (X - 2)) = s2 := ⟨_, rfl⟩
            rw [hs2] at SA ok2 bad2 jump2
            clear hs2
            have SA := Lib.hid SA
            have H2 : Hid (∀ j, j < k + 1 → secF (stuckAt 2 false a j) < 0 → 0 < s2.bad) := fun j hj hn => by
              rcases Nat.lt_succ_iff_lt_or_eq.1 hj with h | rfl
              · have := HH.out j h hn
                omega
              · rw [hc] at hn
                omega
            have SN := Lib.hid (Sector_no (X - 2) hs)
            have hbad : Value.int .i64 s2.bad = .int .i64 (s.bad + 1) := by rw [bad2]
            have HB := Lib.hid hbad
            have B2 := Lib.hid bad2
            have r1 : s2.bad ≤ ((k + 1 : Nat) : Int) := by omega
            have r2 : s2.jump ≤ ((k + 1 : Nat) : Int) := by omega
            have RR := Lib.hid (And.intro r1 r2)
            clear hc HH hbad bad2 jump2 r1 r2
            have e4 : IntKind.i64.wrap (s.bad + 1) = s.bad + 1 := IntWalk.i64_in _ (by omega)
            go_wp2_with fail
            (with_reducible refine (CO.out _ (T.below B)).mono ?_)
            rintro e w' ⟨rfl, rfl⟩
            go_wp2_with fail
            (with_reducible refine (SN.out _ (T.below B)).mono ?_)
            rintro e w' ⟨rfl, rfl⟩
            go_wp2_with fail
            (with_reducible refine (SA.out _ (T.below B)).mono ?_)
            rintro e w3 ⟨rfl, hb3⟩
            obtain ⟨bS3, cS3, fS3, zS3⟩ := bS.next hb3
            have B3 := below_call B hb3
            clear cS fS zS
            go_wp2_with fail
            exact ⟨⟨k + 1, s2, by omega, by go_num, HB.out.symm, ok2, RR.out.1, RR.out.2, H2, (((((((bS3).put 0 _).put 1 _).put 2 _).put 3 _).put 4 _).put 5 _).put 6 _, by repeat' (first | refine below_set ?_ (by omega) _ | with_reducible exact B3)⟩, by simp [intOf]; omega⟩
          · have hc : stuckAt 2 false a k = (X - 2) := by unfold stuckAt stuckC; rw [hY]; simp [hX]
            have ok2 := stn_ok (k := secF (X - 2)) ok (secF_le _).2 (by omega) (by omega)
            have bad2 := stn_bad s (secF (X - 2))
            have jump2 := stn_jump s (secF (X - 2))
            rw [if_neg hs] at bad2
            have SA := Step_any s (X - 2)
            rw [nrm_of_ok ok] at SA
            obtain ⟨s2, hs2⟩ : ∃ s2, stn s (secF (X - 2)) = s2 := ⟨_, rfl⟩
            rw [hs2] at SA ok2 bad2 jump2
            clear hs2
            have SA := Lib.hid SA
            have H2 : Hid (∀ j, j < k + 1 → secF (stuckAt 2 false a j) < 0 → 0 < s2.bad) := fun j hj hn => by
              rcases Nat.lt_succ_iff_lt_or_eq.1 hj with h | rfl
              · have := HH.out j h hn
                omega
              · rw [hc] at hn
                omega
            have SN := Lib.hid (Sector_yes (X - 2) (by omega))
            have hbad : Value.int .i64 s2.bad = .int .i64 s.bad := by rw [bad2]
            have HB := Lib.hid hbad
            have B2 := Lib.hid bad2
            have r1 : s2.bad ≤ ((k + 1 : Nat) : Int) := by omega
            have r2 : s2.jump ≤ ((k + 1 : Nat) : Int) := by omega
            have RR := Lib.hid (And.intro r1 r2)
            clear hc HH hbad bad2 jump2 r1 r2
            have e4 : IntKind.i64.wrap (s.bad + 1) = s.bad + 1 := IntWalk.i64_in _ (by omega)
            go_wp2_with fail
            (with_reducible refine (CO.out _ (T.below B)).mono ?_)
            rintro e w' ⟨rfl, rfl⟩
            go_wp2_with fail
            (with_reducible refine (SN.out _ (T.below B)).mono ?_)
            rintro e w' ⟨rfl, rfl⟩
            go_wp2_with fail
            (with_reducible refine (SA.out _ (T.below B)).mono ?_)
            rintro e w3 ⟨rfl, hb3⟩
            obtain ⟨bS3, cS3, fS3, zS3⟩ := bS.next hb3
            have B3 := below_call B hb3
            clear cS fS zS
            go_wp2_with fail
            exact ⟨⟨k + 1, s2, by omega, by go_num, HB.out.symm, ok2, RR.out.1, RR.out.2, H2, (((((((bS3).put 0 _).put 1 _).put 2 _).put 3 _).put 4 _).put 5 _).put 6 _, by repeat' (first | refine below_set ?_ (by omega) _ | with_reducible exact B3)⟩, by simp [intOf]; omega⟩
        · by_cases hs : secF X < 0
          · have hc : stuckAt 2 true a k = X := by unfold stuckAt stuckC; rw [hY]; simp [hX]
            have ok2 := stn_ok (k := secF X) ok (secF_le _).2 (by omega) (by omega)
            have bad2 := stn_bad s (secF X)
            have jump2 := stn_jump s (secF X)
            rw [if_pos hs] at bad2
            have SA := Step_any s X
            rw [nrm_of_ok ok] at SA
            obtain ⟨s2, hs2⟩ : ∃ s2, stn s (secF X) = s2 := ⟨_, rfl⟩
            rw [hs2] at SA ok2 bad2 jump2
            clear hs2
            have SA := Lib.hid SA
            have H2 : Hid (∀ j, j < k + 1 → secF (stuckAt 2 true a j) < 0 → 0 < s2.bad) := fun j hj hn => by
              rcases Nat.lt_succ_iff_lt_or_eq.1 hj with h | rfl
              · have := HH.out j h hn
                omega
              · rw [hc] at hn
                omega
            have SN := Lib.hid (Sector_no X hs)
            have hbad : Value.int .i64 s2.bad = .int .i64 (s.bad + 1) := by rw [bad2]
            have HB := Lib.hid hbad
            have B2 := Lib.hid bad2
            have r1 : s2.bad ≤ ((k + 1 : Nat) : Int) := by omega
            have r2 : s2.jump ≤ ((k + 1 : Nat) : Int) := by omega
            have RR := Lib.hid (And.intro r1 r2)
            clear hc HH hbad bad2 jump2 r1 r2
            have e4 : IntKind.i64.wrap (s.bad + 1) = s.bad + 1 := IntWalk.i64_in _ (by omega)
            go_wp2_with fail
            (with_reducible refine (CO.out _ (T.below B)).mono ?_)
            rintro e w' ⟨rfl, rfl⟩
            go_wp2_with fail
            (with_reducible refine (SN.out _ (T.below B)).mono ?_)
            rintro e w' ⟨rfl, rfl⟩
            go_wp2_with fail
            (with_reducible refine (SA.out _ (T.below B)).mono ?_)
            rintro e w3 ⟨rfl, hb3⟩
            obtain ⟨bS3, cS3, fS3, zS3⟩ := bS.next hb3
            have B3 := below_call B hb3
            clear cS fS zS
            go_wp2_with fail
            exact ⟨⟨k + 1, s2, by omega, by go_num, HB.out.symm, ok2, RR.out.1, RR.out.2, H2, (((((((bS3).put 0 _).put 1 _).put 2 _).put 3 _).put 4 _).put 5 _).put 6 _, by repeat' (first | refine below_set ?_ (by omega) _ | with_reducible exact B3)⟩, by simp [intOf]; omega⟩
          · have hc : stuckAt 2 true a k = X := by unfold stuckAt stuckC; rw [hY]; simp [hX]
            have ok2 := stn_ok (k := secF X) ok (secF_le _).2 (by omega) (by omega)
            have bad2 := stn_bad s (secF X)
            have jump2 := stn_jump s (secF X)
            rw [if_neg hs] at bad2
            have SA := Step_any s X
            rw [nrm_of_ok ok] at SA
            obtain ⟨s2, hs2⟩ : ∃ s2, stn s (secF X) = s2 := ⟨_, rfl⟩
            rw [hs2] at SA ok2 bad2 jump2
            clear hs2
            have SA := Lib.hid SA
            have H2 : Hid (∀ j, j < k + 1 → secF (stuckAt 2 true a j) < 0 → 0 < s2.bad) := fun j hj hn => by
              rcases Nat.lt_succ_iff_lt_or_eq.1 hj with h | rfl
              · have := HH.out j h hn
                omega
              · rw [hc] at hn
                omega
            have SN := Lib.hid (Sector_yes X (by omega))
            have hbad : Value.int .i64 s2.bad = .int .i64 s.bad := by rw [bad2]
            have HB := Lib.hid hbad
            have B2 := Lib.hid bad2
            have r1 : s2.bad ≤ ((k + 1 : Nat) : Int) := by omega
            have r2 : s2.jump ≤ ((k + 1 : Nat) : Int) := by omega
            have RR := Lib.hid (And.intro r1 r2)
            clear hc HH hbad bad2 jump2 r1 r2
            have e4 : IntKind.i64.wrap (s.bad + 1) = s.bad + 1 := IntWalk.i64_in _ (by omega)
            go_wp2_with fail
            (with_reducible refine (CO.out _ (T.below B)).mono ?_)
            rintro e w' ⟨rfl, rfl⟩
            go_wp2_with fail
            (with_reducible refine (SN.out _ (T.below B)).mono ?_)
            rintro e w' ⟨rfl, rfl⟩
            go_wp2_with fail
            (with_reducible refine (SA.out _ (T.below B)).mono ?_)
            rintro e w3 ⟨rfl, hb3⟩
            obtain ⟨bS3, cS3, fS3, zS3⟩ := bS.next hb3
            have B3 := below_call B hb3
            clear cS fS zS
            go_wp2_with fail
            exact ⟨⟨k + 1, s2, by omega, by go_num, HB.out.symm, ok2, RR.out.1, RR.out.2, H2, (((((((bS3).put 0 _).put 1 _).put 2 _).put 3 _).put 4 _).put 5 _).put 6 _, by repeat' (first | refine below_set ?_ (by omega) _ | with_reducible exact B3)⟩, by simp [intOf]; omega⟩
  · have er : l.tmod 3 = 2 := by rw [Int.tmod_eq_emod_of_nonneg hl]; exact h3
    go_enter Tryd.func6, Tryd.ntmps6
    go_wp2_with fail
    (with_reducible refine (awake_any _ T).mono ?_)
    rintro e w1 ⟨rfl, hb1⟩
    have hz := hb1.size
    go_wp2_with (go_at_call 18; (with_reducible refine (cClip_any _ _ _ _).mono ?_); rintro e w' ⟨rfl, rfl⟩)
    generalize clp x (-1099511627776) 1099511627776 = a at *
    go_loopw [9, 10] (fun b i wr => ∃ (k : Nat) (s : HS), k ≤ 12 ∧ i = .int .i64 k ∧ b = .int .i64 s.bad ∧ s.ok ∧ s.bad ≤ (k : Int) ∧ s.jump ≤ (k : Int) ∧ Hid (∀ j, j < k → secF (stuckAt 4 v a j) < 0 → 0 < s.bad) ∧ Blk wr w1.heap.size 23 #[.int .i64 s.sec, .int .i64 s.dir, .int .i64 s.since, .int .i64 s.span, .int .i64 s.bad, .int .i64 s.jump, .bool s.st] ∧ Below w.heap.size w wr)
      (fun b i _ => 12 - (intOf i).toNat)
    case atStart => exact ⟨0, HS.zero, by omega, rfl, rfl, by unfold HS.ok HS.zero; simp only; omega, by decide, by decide, (fun j hj => absurd hj (by omega)), Blk.new w1 _ _, below_box hb1 _⟩
    case round =>
      obtain ⟨k, s, hk, rfl, rfl, ok, hb, hj, HH, bS, B⟩ := hrel
      have hz := B.size
      obtain ⟨cS, fS, zS⟩ := And.intro bS.cell (And.intro bS.frozen bS.lt)
      have ok' := ok
      obtain ⟨_, _, _, _, ⟨h9, h10⟩, h11, h12⟩ := ok'
      by_cases hk12 : k = 12
      · subst hk12
        obtain ⟨i, hi, hs⟩ := stuck_hit 4 v a (by decide)
        have hpos := HH.out i hi hs
        clear hs
        go_wp2_with fail
        go_ret
        exact ⟨ret_bool (by simp), B⟩
      · obtain ⟨y, hY⟩ : ∃ y, codeF (a + (k : Int) * 5461) = y := ⟨_, rfl⟩
        have CO := Code_any (a + (k : Int) * 5461)
        rw [hY] at CO
        have CO := Lib.hid CO
        have hf := stuck_fits ⟨secN ((a + (k : Int) * 5461) % 65536), secN_lt _⟩ ⟨2, by decide⟩
        change -7 ≤ bits .or .i64 (codeF (a + (k : Int) * 5461)) 4 ∧ bits .or .i64 (codeF (a + (k : Int) * 5461)) 4 ≤ 7 at hf
        rw [hY] at hf
        obtain ⟨X, hX⟩ : ∃ X, bits .or .i64 y 4 = X := ⟨_, rfl⟩
        rw [hX] at hf
        have e1 : IntKind.i64.wrap ((k : Int) * 5461) = (k : Int) * 5461 := IntWalk.i64_in _ (by omega)
        have e2 : IntKind.i64.wrap (a + (k : Int) * 5461) = a + (k : Int) * 5461 := IntWalk.i64_in _ (by omega)
        have e3 : IntKind.i64.wrap (X - 4) = X - 4 := IntWalk.i64_in _ (by omega)
        cases v
        · by_cases hs : secF (X - 4) < 0
          · have hc : stuckAt 4 false a k = (X - 4) := by unfold stuckAt stuckC; rw [hY]; simp [hX]
            have ok2 := stn_ok (k := secF (X - 4)) ok (secF_le _).2 (by omega) (by omega)
            have bad2 := stn_bad s (secF (X - 4))
            have jump2 := stn_jump s (secF (X - 4))
            rw [if_pos hs] at bad2
            have SA := Step_any s (X - 4)
            rw [nrm_of_ok ok] at SA
            obtain ⟨s2, hs2⟩ : ∃ s2, stn s (secF (X - 4)) = s2 := ⟨_, rfl⟩
            rw [hs2] at SA ok2 bad2 jump2
            clear hs2
            have SA := Lib.hid SA
            have H2 : Hid (∀ j, j < k + 1 → secF (stuckAt 4 false a j) < 0 → 0 < s2.bad) := fun j hj hn => by
              rcases Nat.lt_succ_iff_lt_or_eq.1 hj with h | rfl
              · have := HH.out j h hn
                omega
              · rw [hc] at hn
                omega
            have SN := Lib.hid (Sector_no (X - 4) hs)
            have hbad : Value.int .i64 s2.bad = .int .i64 (s.bad + 1) := by rw [bad2]
            have HB := Lib.hid hbad
            have B2 := Lib.hid bad2
            have r1 : s2.bad ≤ ((k + 1 : Nat) : Int) := by omega
            have r2 : s2.jump ≤ ((k + 1 : Nat) : Int) := by omega
            have RR := Lib.hid (And.intro r1 r2)
            clear hc HH hbad bad2 jump2 r1 r2
            have e4 : IntKind.i64.wrap (s.bad + 1) = s.bad + 1 := IntWalk.i64_in _ (by omega)
            go_wp2_with fail
            (with_reducible refine (CO.out _ (T.below B)).mono ?_)
            rintro e w' ⟨rfl, rfl⟩
            go_wp2_with fail
            (with_reducible refine (SN.out _ (T.below B)).mono ?_)
            rintro e w' ⟨rfl, rfl⟩
            go_wp2_with fail
            (with_reducible refine (SA.out _ (T.below B)).mono ?_)
            rintro e w3 ⟨rfl, hb3⟩
            obtain ⟨bS3, cS3, fS3, zS3⟩ := bS.next hb3
            have B3 := below_call B hb3
            clear cS fS zS
            go_wp2_with fail
            exact ⟨⟨k + 1, s2, by omega, by go_num, HB.out.symm, ok2, RR.out.1, RR.out.2, H2, (((((((bS3).put 0 _).put 1 _).put 2 _).put 3 _).put 4 _).put 5 _).put 6 _, by repeat' (first | refine below_set ?_ (by omega) _ | with_reducible exact B3)⟩, by simp [intOf]; omega⟩
          · have hc : stuckAt 4 false a k = (X - 4) := by unfold stuckAt stuckC; rw [hY]; simp [hX]
            have ok2 := stn_ok (k := secF (X - 4)) ok (secF_le _).2 (by omega) (by omega)
            have bad2 := stn_bad s (secF (X - 4))
            have jump2 := stn_jump s (secF (X - 4))
            rw [if_neg hs] at bad2
            have SA := Step_any s (X - 4)
            rw [nrm_of_ok ok] at SA
            obtain ⟨s2, hs2⟩ : ∃ s2, stn s (secF (X - 4)) = s2 := ⟨_, rfl⟩
            rw [hs2] at SA ok2 bad2 jump2
            clear hs2
            have SA := Lib.hid SA
            have H2 : Hid (∀ j, j < k + 1 → secF (stuckAt 4 false a j) < 0 → 0 < s2.bad) := fun j hj hn => by
              rcases Nat.lt_succ_iff_lt_or_eq.1 hj with h | rfl
              · have := HH.out j h hn
                omega
              · rw [hc] at hn
                omega
            have SN := Lib.hid (Sector_yes (X - 4) (by omega))
            have hbad : Value.int .i64 s2.bad = .int .i64 s.bad := by rw [bad2]
            have HB := Lib.hid hbad
            have B2 := Lib.hid bad2
            have r1 : s2.bad ≤ ((k + 1 : Nat) : Int) := by omega
            have r2 : s2.jump ≤ ((k + 1 : Nat) : Int) := by omega
            have RR := Lib.hid (And.intro r1 r2)
            clear hc HH hbad bad2 jump2 r1 r2
            have e4 : IntKind.i64.wrap (s.bad + 1) = s.bad + 1 := IntWalk.i64_in _ (by omega)
            go_wp2_with fail
            (with_reducible refine (CO.out _ (T.below B)).mono ?_)
            rintro e w' ⟨rfl, rfl⟩
            go_wp2_with fail
            (with_reducible refine (SN.out _ (T.below B)).mono ?_)
            rintro e w' ⟨rfl, rfl⟩
            go_wp2_with fail
            (with_reducible refine (SA.out _ (T.below B)).mono ?_)
            rintro e w3 ⟨rfl, hb3⟩
            obtain ⟨bS3, cS3, fS3, zS3⟩ := bS.next hb3
            have B3 := below_call B hb3
            clear cS fS zS
            go_wp2_with fail
            exact ⟨⟨k + 1, s2, by omega, by go_num, HB.out.symm, ok2, RR.out.1, RR.out.2, H2, (((((((bS3).put 0 _).put 1 _).put 2 _).put 3 _).put 4 _).put 5 _).put 6 _, by repeat' (first | refine below_set ?_ (by omega) _ | with_reducible exact B3)⟩, by simp [intOf]; omega⟩
        · by_cases hs : secF X < 0
          · have hc : stuckAt 4 true a k = X := by unfold stuckAt stuckC; rw [hY]; simp [hX]
            have ok2 := stn_ok (k := secF X) ok (secF_le _).2 (by omega) (by omega)
            have bad2 := stn_bad s (secF X)
            have jump2 := stn_jump s (secF X)
            rw [if_pos hs] at bad2
            have SA := Step_any s X
            rw [nrm_of_ok ok] at SA
            obtain ⟨s2, hs2⟩ : ∃ s2, stn s (secF X) = s2 := ⟨_, rfl⟩
            rw [hs2] at SA ok2 bad2 jump2
            clear hs2
            have SA := Lib.hid SA
            have H2 : Hid (∀ j, j < k + 1 → secF (stuckAt 4 true a j) < 0 → 0 < s2.bad) := fun j hj hn => by
              rcases Nat.lt_succ_iff_lt_or_eq.1 hj with h | rfl
              · have := HH.out j h hn
                omega
              · rw [hc] at hn
                omega
            have SN := Lib.hid (Sector_no X hs)
            have hbad : Value.int .i64 s2.bad = .int .i64 (s.bad + 1) := by rw [bad2]
            have HB := Lib.hid hbad
            have B2 := Lib.hid bad2
            have r1 : s2.bad ≤ ((k + 1 : Nat) : Int) := by omega
            have r2 : s2.jump ≤ ((k + 1 : Nat) : Int) := by omega
            have RR := Lib.hid (And.intro r1 r2)
            clear hc HH hbad bad2 jump2 r1 r2
            have e4 : IntKind.i64.wrap (s.bad + 1) = s.bad + 1 := IntWalk.i64_in _ (by omega)
            go_wp2_with fail
            (with_reducible refine (CO.out _ (T.below B)).mono ?_)
            rintro e w' ⟨rfl, rfl⟩
            go_wp2_with fail
            (with_reducible refine (SN.out _ (T.below B)).mono ?_)
            rintro e w' ⟨rfl, rfl⟩
            go_wp2_with fail
            (with_reducible refine (SA.out _ (T.below B)).mono ?_)
            rintro e w3 ⟨rfl, hb3⟩
            obtain ⟨bS3, cS3, fS3, zS3⟩ := bS.next hb3
            have B3 := below_call B hb3
            clear cS fS zS
            go_wp2_with fail
            exact ⟨⟨k + 1, s2, by omega, by go_num, HB.out.symm, ok2, RR.out.1, RR.out.2, H2, (((((((bS3).put 0 _).put 1 _).put 2 _).put 3 _).put 4 _).put 5 _).put 6 _, by repeat' (first | refine below_set ?_ (by omega) _ | with_reducible exact B3)⟩, by simp [intOf]; omega⟩
          · have hc : stuckAt 4 true a k = X := by unfold stuckAt stuckC; rw [hY]; simp [hX]
            have ok2 := stn_ok (k := secF X) ok (secF_le _).2 (by omega) (by omega)
            have bad2 := stn_bad s (secF X)
            have jump2 := stn_jump s (secF X)
            rw [if_neg hs] at bad2
            have SA := Step_any s X
            rw [nrm_of_ok ok] at SA
            obtain ⟨s2, hs2⟩ : ∃ s2, stn s (secF X) = s2 := ⟨_, rfl⟩
            rw [hs2] at SA ok2 bad2 jump2
            clear hs2
            have SA := Lib.hid SA
            have H2 : Hid (∀ j, j < k + 1 → secF (stuckAt 4 true a j) < 0 → 0 < s2.bad) := fun j hj hn => by
              rcases Nat.lt_succ_iff_lt_or_eq.1 hj with h | rfl
              · have := HH.out j h hn
                omega
              · rw [hc] at hn
                omega
            have SN := Lib.hid (Sector_yes X (by omega))
            have hbad : Value.int .i64 s2.bad = .int .i64 s.bad := by rw [bad2]
            have HB := Lib.hid hbad
            have B2 := Lib.hid bad2
            have r1 : s2.bad ≤ ((k + 1 : Nat) : Int) := by omega
            have r2 : s2.jump ≤ ((k + 1 : Nat) : Int) := by omega
            have RR := Lib.hid (And.intro r1 r2)
            clear hc HH hbad bad2 jump2 r1 r2
            have e4 : IntKind.i64.wrap (s.bad + 1) = s.bad + 1 := IntWalk.i64_in _ (by omega)
            go_wp2_with fail
            (with_reducible refine (CO.out _ (T.below B)).mono ?_)
            rintro e w' ⟨rfl, rfl⟩
            go_wp2_with fail
            (with_reducible refine (SN.out _ (T.below B)).mono ?_)
            rintro e w' ⟨rfl, rfl⟩
            go_wp2_with fail
            (with_reducible refine (SA.out _ (T.below B)).mono ?_)
            rintro e w3 ⟨rfl, hb3⟩
            obtain ⟨bS3, cS3, fS3, zS3⟩ := bS.next hb3
            have B3 := below_call B hb3
            clear cS fS zS
            go_wp2_with fail
            exact ⟨⟨k + 1, s2, by omega, by go_num, HB.out.symm, ok2, RR.out.1, RR.out.2, H2, (((((((bS3).put 0 _).put 1 _).put 2 _).put 3 _).put 4 _).put 5 _).put 6 _, by repeat' (first | refine below_set ?_ (by omega) _ | with_reducible exact B3)⟩, by simp [intOf]; omega⟩
end Go.Proofs.YtehkmnkbmhldgaaDoor
