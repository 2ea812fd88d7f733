/- The walk of HallSpeed, one direction. -/
import Derived.Test.YtehkmnkbmhldgaaDoorPlain5
import Derived.StillTailTactics
import Derived.Deep.DeepCutAuto
namespace Go.Proofs.YtehkmnkbmhldgaaDoor
open Go.RowKit

set_option maxHeartbeats 2000000 in
theorem speed_false (a b : Int) (ha : 0 ≤ a) (hb : 0 ≤ b) (w : World) (T : Tabs w) : Calls Tryd.prog 9 #[.int .u8 a, .bool false, .int .u8 b] w fun e w' => e = .returned (.bool true) ∧ Below w.heap.size w w' := by
  have ea : a.tmod 50 = a % 50 := Int.tmod_eq_emod_of_nonneg ha
  have eb : b.tmod 60 = b % 60 := Int.tmod_eq_emod_of_nonneg hb
  have e0 : IntKind.i64.wrap (1 + a % 50) = 1 + a % 50 := IntWalk.i64_in _ (by omega)
  go_enter Tryd.func9, Tryd.ntmps9
  go_wp2_with fail
  (with_reducible refine (awake_any _ T).mono ?_)
  rintro e w1 ⟨rfl, hb1⟩
  have hz := hb1.size
  go_wp2_with fail
  have n1 : 1 ≤ 1 + a % 50 := by omega
  have n2 : 1 + a % 50 ≤ 50 := by omega
  generalize 1 + a % 50 = n at *
  clear ea e0 ha
  go_loopw [10, 11] (fun k i wr => ∃ m : Nat, m ≤ 4 ∧ i = .int .i64 m ∧ k = .int .i64 (kAt (1) m) ∧ Blk wr w1.heap.size 23 #[.int .i64 (spS n (1) m 0).sec, .int .i64 (spS n (1) m 0).dir, .int .i64 (spS n (1) m 0).since, .int .i64 (spS n (1) m 0).span, .int .i64 (spS n (1) m 0).bad, .int .i64 (spS n (1) m 0).jump, .bool (spS n (1) m 0).st] ∧ Below w.heap.size w wr) (fun k i _ => 4 - (intOf i).toNat)
  case atStart => exact ⟨0, by omega, rfl, rfl, Blk.new w1 _ _, below_box hb1 _⟩
  case round =>
    obtain ⟨m, hm, rfl, rfl, bS, B⟩ := hrel
    have hz := B.size
    by_cases hm4 : m = 4
    · subst hm4
      have e4 : spS n (1) 4 0 = spE n (1) 3 n := by unfold spS; rw [if_pos rfl]
      rw [e4] at bS
      have SP := Speed_any (spE n (1) 3 n)
      rw [nrm_of_ok (spE_ok n1 n2 (.inl rfl) 3 n1 (by omega)), spe_turn n1, show ((1) * 10923 * 65536 : Int).tdiv n = 715849728 / n by rw [Int.tdiv_eq_ediv_of_nonneg (by decide)]; rfl] at SP
      have SP := Lib.hid SP
      have CL := Lib.hid fun W => cClip_any (715849728 / n) (-1073741824) 1073741824 W
      generalize clp (715849728 / n) (-1073741824) 1073741824 = P at SP CL
      obtain ⟨cS, fS, zS⟩ := And.intro bS.cell (And.intro bS.frozen bS.lt)
      go_wp2_with fail
      (with_reducible refine (CL.out _).mono ?_)
      rintro e w' ⟨rfl, rfl⟩
      go_wp2_with fail
      (with_reducible refine (SP.out _).mono ?_)
      rintro e w2 ⟨rfl, hb2⟩
      obtain ⟨bS2, _, _, _⟩ := bS.next hb2
      have B2 := below_call B hb2
      clear bS B cS fS zS hz
      go_wp2_with fail
      go_loopw [14] (fun j wr => ∃ r : Nat, (r : Int) ≤ b % 60 ∧ j = .int .i64 r ∧ Blk wr w1.heap.size 23 #[.int .i64 (spE n (1) 3 (n + r)).sec, .int .i64 (spE n (1) 3 (n + r)).dir, .int .i64 (spE n (1) 3 (n + r)).since, .int .i64 (spE n (1) 3 (n + r)).span, .int .i64 (spE n (1) 3 (n + r)).bad, .int .i64 (spE n (1) 3 (n + r)).jump, .bool (spE n (1) 3 (n + r)).st] ∧ Below w.heap.size w wr) (fun j _ => (b % 60 - intOf j).toNat)
      case atStart => exact ⟨0, by omega, rfl, by simpa using bS2, B2⟩
      case round =>
        clear bS2 B2
        obtain ⟨r, hr, rfl, bS, B⟩ := hrel
        have hz := B.size
        by_cases hrb : (r : Int) = b % 60
        · go_wp2_with fail
          go_ret
          exact ⟨rfl, B⟩
        · have hr2 : (r : Int) < b % 60 := by omega
          have n3 : 1 ≤ n + r := by omega
          have ok := spE_ok n1 n2 (.inl rfl) 3 n3 (by omega)
          have ok2 := spE_ok n1 n2 (.inl rfl) 3 (show 1 ≤ n + r + 1 by omega) (by omega)
          have WN := wait_next (n := n) (d := (1)) n3 (by omega)
          have WC := wait_code n1 n2 (.inl rfl) n3 (by omega)
          have WS := spe_wait n1 (show n ≤ n + r by omega) (.inl rfl)
          have AA := Angle_any (spE n (1) 3 (n + r))
          rw [nrm_of_ok ok] at AA
          have CA := Lib.hid (Code_any (ang (spE n (1) 3 (n + r))))
          have SA := Step_any (spE n (1) 3 (n + r)) (codeF (ang (spE n (1) 3 (n + r))))
          rw [nrm_of_ok ok, WC, WN] at SA
          have AA := Lib.hid AA
          have SA := Lib.hid SA
          have P1 := Speed_any (spE n (1) 3 (n + r))
          have P2 := Speed_any (spE n (1) 3 (n + r + 1))
          rw [nrm_of_ok ok] at P1
          rw [nrm_of_ok ok2] at P2
          have P1 := Lib.hid P1
          have P2 := Lib.hid P2
          have l1 := spe_le (spE n (1) 3 (n + r))
          have l2 := spe_le (spE n (1) 3 (n + r + 1))
          have SO := Lib.hid (show spE n (1) 3 (n + r + 1) = spE n (1) 3 (n + ((r + 1 : Nat) : Int)) by push_cast; rw [Int.add_assoc])
          clear WN WC ok ok2
          generalize codeF (ang (spE n (1) 3 (n + r))) = c at *
          generalize ang (spE n (1) 3 (n + r)) = g at *
          generalize spe (spE n (1) 3 (n + r)) = p1 at *
          generalize spe (spE n (1) 3 (n + r + 1)) = p2 at *
          generalize spE n (1) 3 (n + r + 1) = s2 at *
          generalize spE n (1) 3 (n + r) = s at *
          obtain ⟨cS, fS, zS⟩ := And.intro bS.cell (And.intro bS.frozen bS.lt)
          go_upto_region 21 with fail
          go_cut [15] from 54 to 82 (fun t wx => ∃ q, t = .pointer (some ⟨q, 0, none⟩) ∧ w.heap.size ≤ q ∧ ¬ q = w1.heap.size ∧ Blk wx q 23 #[.int .i64 s2.sec, .int .i64 s2.dir, .int .i64 s2.since, .int .i64 s2.span, .int .i64 s2.bad, .int .i64 s2.jump, .bool s2.st] ∧ Blk wx w1.heap.size 23 #[.int .i64 s.sec, .int .i64 s.dir, .int .i64 s.since, .int .i64 s.span, .int .i64 s.bad, .int .i64 s.jump, .bool s.st] ∧ Below w.heap.size w wx)
          case first =>
            have bS0 : Blk wr.drew w1.heap.size 23 #[.int .i64 s.sec, .int .i64 s.dir, .int .i64 s.since, .int .i64 s.span, .int .i64 s.bad, .int .i64 s.jump, .bool s.st] := bS.drew
            have B0 : Below w.heap.size w wr.drew := B.drew
            have zd : wr.drew.heap.size = wr.heap.size := rfl
            go_region_held3 (fun w' => ∀ i, w'.cell? ⟨w1.heap.size, i, none⟩ = (#[.int .i64 s.sec, .int .i64 s.dir, .int .i64 s.since, .int .i64 s.span, .int .i64 s.bad, .int .i64 s.jump, .bool s.st] : Array Value)[i]?)
                (first
                  | with_reducible exact bS0.cell
                  | with_reducible exact ((bS.alloc _).drew).cell
                  | with_reducible exact bS3.cell
                  | with_reducible exact (bS3.alloc _).cell
                  | with_reducible exact bS4.cell
                  | with_reducible exact (bS4.alloc _).cell
                  | with_reducible exact (((((((bS4.far (by simp; omega) _).far (by simp; omega) _).far (by simp; omega) _).far (by simp; omega) _).far (by simp; omega) _).far (by simp; omega) _).far (by simp; omega) _).cell
                  | fail)
                (first
                  | (go_at_call 21; (with_reducible refine (AA.out _ (T.below (by first | exact B0 | exact (below_box B _).drew))).mono ?_); rintro e w3 ⟨rfl, hb3⟩; have hz3 := hb3.size; first | (obtain ⟨bS3, _, _, _⟩ := bS0.next hb3; have B3 := below_call B0 hb3) | (obtain ⟨bS3, _, _, _⟩ := ((bS.alloc _).drew).next hb3; obtain ⟨bT3, _, _, _⟩ := ((Blk.new wr 23 #[.int .i64 0, .int .i64 0, .int .i64 0, .int .i64 0, .int .i64 0, .int .i64 0, .bool false]).drew).next hb3; have B3 := below_call ((below_box B _).drew) hb3))
                  | (go_at_call 13; (with_reducible refine (CA.out _ (T.below (by first | exact B3 | exact (below_box B3 _)))).mono ?_); rintro e w' ⟨rfl, rfl⟩)
                  | (go_at_call 11; (with_reducible refine (SA.out _ (T.below (by first | exact B3 | exact (below_box B3 _)))).mono ?_); rintro e w4 ⟨rfl, hb4⟩; have hz4 := hb4.size; first | (obtain ⟨bT4, cT4, fT4, zT4⟩ := bT3.next hb4; obtain ⟨bS4, _, _, _⟩ := bS3.next hb4; have B4 := below_call B3 hb4) | (obtain ⟨bS4, _, _, _⟩ := bS3.next hb4; have B4 := below_call B3 hb4) | (obtain ⟨bT4, cT4, fT4, zT4⟩ := (Blk.new w3 23 #[.int .i64 0, .int .i64 0, .int .i64 0, .int .i64 0, .int .i64 0, .int .i64 0, .bool false]).next hb4; obtain ⟨bS4, _, _, _⟩ := (bS3.alloc _).next hb4; have B4 := below_call (below_box B3 _) hb4)))
            all_goals go_wp2_with fail
            all_goals go_meet
            all_goals simp at hz3 hz4
            all_goals first
              | exact ⟨_, rfl, by omega, by omega, (((((((bT4).put 0 _).put 1 _).put 2 _).put 3 _).put 4 _).put 5 _).put 6 _, ((((((bS4.far (by simp; omega) _).far (by simp; omega) _).far (by simp; omega) _).far (by simp; omega) _).far (by simp; omega) _).far (by simp; omega) _).far (by simp; omega) _, by repeat' (first | refine below_set ?_ (by omega) _ | with_reducible exact B4)⟩
              | exact ⟨_, rfl, by omega, by omega, Blk.new w4 _ _, bS4.alloc _, below_box B4 _⟩
          case rest =>
            clear bS B hz cS fS zS
            obtain ⟨q, rfl, hq1, hq2, bT, bS, B⟩ := hcut
            obtain ⟨k1, k2⟩ := WS
            have k3 : p1 * 1 = p1 := Int.mul_one _
            have k4 : p2 * 1 = p2 := Int.mul_one _
            have g1 : IntKind.i64.wrap p1 = p1 := IntWalk.i64_in _ (by omega)
            have g2 : IntKind.i64.wrap p2 = p2 := IntWalk.i64_in _ (by omega)
            have g3 : IntKind.i64.wrap (p1 * (1)) = p1 * (1) := IntWalk.i64_in _ (by omega)
            have g4 : IntKind.i64.wrap (p2 * (1)) = p2 * (1) := IntWalk.i64_in _ (by omega)
            go_upto_region 22 with fail
            have bT0 : Blk wc.drew q 23 #[.int .i64 s2.sec, .int .i64 s2.dir, .int .i64 s2.since, .int .i64 s2.span, .int .i64 s2.bad, .int .i64 s2.jump, .bool s2.st] := bT.drew
            have bS0 : Blk wc.drew w1.heap.size 23 #[.int .i64 s.sec, .int .i64 s.dir, .int .i64 s.since, .int .i64 s.span, .int .i64 s.bad, .int .i64 s.jump, .bool s.st] := bS.drew
            have B0 : Below w.heap.size w wc.drew := B.drew
            have d1 : decide (p1 < p2) = false := decide_eq_false (by omega)
            have d2 : decide (p2 < 0) = false := decide_eq_false (by omega)
            go_region_held3 (fun w' => (∀ i, w'.cell? ⟨q, i, none⟩ = (#[.int .i64 s2.sec, .int .i64 s2.dir, .int .i64 s2.since, .int .i64 s2.span, .int .i64 s2.bad, .int .i64 s2.jump, .bool s2.st] : Array Value)[i]?) ∧ (∀ i, w'.cell? ⟨w1.heap.size, i, none⟩ = (#[.int .i64 s.sec, .int .i64 s.dir, .int .i64 s.since, .int .i64 s.span, .int .i64 s.bad, .int .i64 s.jump, .bool s.st] : Array Value)[i]?))
              (first
                | with_reducible exact ⟨bT0.cell, bS0.cell⟩
                | with_reducible exact ⟨bT3.cell, bS3.cell⟩
                | with_reducible exact ⟨bT4.cell, bS4.cell⟩
                | with_reducible exact ⟨bT5.cell, bS5.cell⟩
                | fail)
              (first
                | (go_at_call 23; (with_reducible refine (P2.out _).mono ?_); rintro e w3 ⟨rfl, hb3⟩; first | (obtain ⟨bT3, _, _, _⟩ := bT0.next hb3; obtain ⟨bS3, _, _, _⟩ := bS0.next hb3; have B3 := below_call B0 hb3) | (obtain ⟨bT5, _, _, _⟩ := bT4.next hb3; obtain ⟨bS5, _, _, _⟩ := bS4.next hb3; have B5 := below_call B4 hb3))
                | (go_at_call 23; (with_reducible refine (P1.out _).mono ?_); rintro e w4 ⟨rfl, hb4⟩; obtain ⟨bT4, _, _, _⟩ := bT3.next hb4; obtain ⟨bS4, _, _, _⟩ := bS3.next hb4; have B4 := below_call B3 hb4))
            obtain ⟨cT, fT, zT⟩ := And.intro bT5.cell (And.intro bT5.frozen bT5.lt)
            obtain ⟨cS, fS, zS⟩ := And.intro bS5.cell (And.intro bS5.frozen bS5.lt)
            go_wp2_with fail
            exact ⟨⟨r + 1, by omega, by go_num, by rw [← SO.out]; exact (((((((bS5).put 0 _).put 1 _).put 2 _).put 3 _).put 4 _).put 5 _).put 6 _, by repeat' (first | refine below_set ?_ (by omega) _ | with_reducible exact B5)⟩, by simp [intOf]; omega⟩
    · have hdm : decide ((m : Int) < 4) = true := decide_eq_true (by omega)
      have hq := kAt_le (1) m
      have hq2 := kAt_next (1) m
      have EC := edge_code' hq
      have EK := Lib.hid fun W => edge_any (kAt (1) m) hq.1 (Int.le_trans hq.2 (by decide)) W
      have CK := Lib.hid (Code_any (edg (kAt (1) m)))
      have SN := Lib.hid fun (r : Nat) (hr : (r : Int) < n) => spS_next n1 n2 (.inl rfl) (show m < 4 by omega) (Int.natCast_nonneg r) hr
      have SK := Lib.hid fun (r : Nat) (hr : (r : Int) ≤ n) => spS_ok n1 n2 (.inl rfl) m (Int.natCast_nonneg r) hr
      have ST := Lib.hid (spS_turn (d := (1)) n1 m)
      generalize codeF (edg (kAt (1) m)) = c at *
      generalize edg (kAt (1) m) = g at *
      obtain ⟨q2, hq2'⟩ : ∃ q2, kAt (1) (m + 1) = q2 := ⟨_, rfl⟩
      rw [hq2'] at hq2
      generalize kAt (1) m = q at *
      have em := tmod_mod (q + (1)) 6 (by decide)
      rw [hq2] at em
      have h3 := tspec (q + (1)) 6 (by decide)
      have h4 : -6 < (q + (1)).tmod 6 ∧ (q + (1)).tmod 6 < 6 := by
        rcases Int.le_total 0 (q + (1)) with h0 | h0
        · have := h3.2.1 h0; omega
        · have := h3.2.2 h0; omega
      have e2 : IntKind.i64.wrap ((q + (1)).tmod 6 + 6) = (q + (1)).tmod 6 + 6 := IntWalk.i64_in _ (by omega)
      have e3 : IntKind.i64.wrap (q + (1)) = q + (1) := IntWalk.i64_in _ (by omega)
      clear h3
      have em2 : ((q + (1)).tmod 6 + 6) % 6 = q2 := by rw [← Int.tmod_eq_emod_of_nonneg (by omega)]; exact em
      have EM := Lib.hid (And.intro em (And.intro e2 (And.intro e3 (And.intro h4 (And.intro em2 hq2)))))
      have Q2 := Lib.hid hq2'
      clear em em2 e2 e3 h4 hq2 hq2'
      go_wp2_with fail
      go_loopw [12] (fun j wr => ∃ r : Nat, (r : Int) ≤ n ∧ j = .int .i64 r ∧ Blk wr w1.heap.size 23 #[.int .i64 (spS n (1) m r).sec, .int .i64 (spS n (1) m r).dir, .int .i64 (spS n (1) m r).since, .int .i64 (spS n (1) m r).span, .int .i64 (spS n (1) m r).bad, .int .i64 (spS n (1) m r).jump, .bool (spS n (1) m r).st] ∧ Below w.heap.size w wr) (fun j _ => (n - intOf j).toNat)
      case atStart => exact ⟨0, by omega, rfl, bS, B⟩
      case round =>
        clear bS B hz
        obtain ⟨r, hr, rfl, bS, B⟩ := hrel
        have hz := B.size
        by_cases hrn : (r : Int) = n
        · obtain ⟨em, e2, e3, h4, em2, hq2⟩ := EM.out
          have st := Lib.hid (show spS n (1) m r = spS n (1) (m + 1) 0 by rw [hrn]; exact ST.out)
          go_wp2_with fail
          exact ⟨⟨m + 1, by omega, by go_num, by rw [Q2.out]; try (congr 1; omega), by rw [← st.out]; exact bS, B⟩, by simp [intOf]; omega⟩
        · have hlt : (r : Int) < n := by omega
          have ok := SK.out r hr
          have SA := Step_any (spS n (1) m r) c
          rw [nrm_of_ok ok, EC, SN.out r hlt] at SA
          have SA := Lib.hid SA
          have SO := Lib.hid (show spS n (1) m (r + 1) = spS n (1) m ((r + 1 : Nat) : Int) by push_cast; rfl)
          obtain ⟨cS, fS, zS⟩ := And.intro bS.cell (And.intro bS.frozen bS.lt)
          generalize spS n (1) m (r + 1) = s2 at *
          generalize spS n (1) m r = s at *
          go_wp2_with fail
          refine wp_region_still_tail 4 (by kernel_rfl) (by kernel_rfl) ?_
          simp only [List.take_succ_cons, List.take_zero, List.drop_succ_cons, List.drop_zero]
          still_step
          still_step
          still_call ((EK.out _).mono (by rintro e w' ⟨rfl, rfl⟩; exact ⟨rfl, rfl⟩))
          still_call ((CK.out _ (T.below B.drew)).mono (by rintro e w' ⟨rfl, rfl⟩; exact ⟨rfl, rfl⟩))
          refine wpStill_nil ?_
          change wpList _ _ _ _ _ wr.drew
          have BD : Below w.heap.size w wr.drew := B.drew
          have bSD : Blk wr.drew w1.heap.size 23 #[.int .i64 s.sec, .int .i64 s.dir, .int .i64 s.since, .int .i64 s.span, .int .i64 s.bad, .int .i64 s.jump, .bool s.st] := bS.drew
          generalize wr.drew = wd at bSD BD ⊢
          clear cS fS zS bS B
          obtain ⟨cS, fS, zS⟩ := And.intro bSD.cell (And.intro bSD.frozen bSD.lt)
          go_wp2_with fail
          (with_reducible refine (SA.out _ (T.below BD)).mono ?_)
          rintro e w3 ⟨rfl, hb3⟩
          obtain ⟨bS3, cS3, fS3, zS3⟩ := bSD.next hb3
          have B3 := below_call BD hb3
          clear cS fS zS
          go_wp2_with fail
          exact ⟨⟨r + 1, by omega, by go_num, by rw [← SO.out]; exact (((((((bS3).put 0 _).put 1 _).put 2 _).put 3 _).put 4 _).put 5 _).put 6 _, by repeat' (first | refine below_set ?_ (by omega) _ | with_reducible exact B3)⟩, by simp [intOf]; omega⟩
end Go.Proofs.YtehkmnkbmhldgaaDoor
