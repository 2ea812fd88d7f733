/- The walk of HallForward, one direction. -/
import Derived.Test.YtehkmnkbmhldgaaDoorPlain7
import Derived.StillTailTactics
import Derived.Deep.DeepCutAuto
namespace Go.Proofs.YtehkmnkbmhldgaaDoor
open Go.RowKit

theorem fwd_long (f : Int) (back : Bool) (A : Option Addr) (n c : Nat) (hn : 60 < n) (hm : (n : Int) ≤ 9223372036854775807) (w : World) (T : Tabs w) : Calls Tryd.prog 7 #[.int .u8 f, .bool back, .slice A n c] w fun e w' => e = .returned (.bool true) ∧ Below w.heap.size w w' := by
  go_enter Tryd.func7, Tryd.ntmps7
  go_wp2_with fail
  (with_reducible refine (awake_any _ T).mono ?_)
  rintro e w1 ⟨rfl, hb1⟩
  go_wp2_with fail
  (with_reducible refine (awake_any _ (T.below hb1)).mono ?_)
  rintro e w2 ⟨rfl, hb2⟩
  go_wp2_with fail
  go_ret
  exact ⟨rfl, below_call hb1 hb2⟩

set_option maxRecDepth 10000 in
set_option maxHeartbeats 20000000 in
theorem fwd_false (f : Int) (A : Option Addr) (n c : Nat) (tk : Nat → Int) (bd : Nat → Bool) (hf : 0 ≤ f) (hn : n ≤ 60) (w : World) (T : Tabs w)
    (hA : 0 < n → ∃ b off, A = some ⟨b, off, none⟩ ∧ b < w.heap.size ∧ ∀ k, k < n → (0 ≤ tk k ∧ tk k ≤ 255) ∧ w.cell? ⟨b, off + k * 2, none⟩ = some (.int .u8 (tk k)) ∧ w.cell? ⟨b, off + k * 2 + 1, none⟩ = some (.bool (bd k))) : Calls Tryd.prog 7 #[.int .u8 f, .bool false, .slice A n c] w fun e w' => e = .returned (.bool true) ∧ Below w.heap.size w w' := by
  have HA := Lib.hid hA
  clear hA
  have ef : f.tmod 6 = f % 6 := Int.tmod_eq_emod_of_nonneg hf
  go_enter Tryd.func7, Tryd.ntmps7
  go_wp2_with fail
  (with_reducible refine (awake_any _ T).mono ?_)
  rintro e w1 ⟨rfl, hb1⟩
  have hz := hb1.size
  go_wp2_with fail
  go_loopw [7, 10] (fun k i wr => ∃ (m : Nat) (q : Int) (s : HS), m ≤ n ∧ i = .int .i64 m ∧ k = .int .i64 q ∧ (0 ≤ q ∧ q ≤ 5) ∧ Fw (1) q m 0 s ∧ Blk wr w1.heap.size 23 #[.int .i64 s.sec, .int .i64 s.dir, .int .i64 s.since, .int .i64 s.span, .int .i64 s.bad, .int .i64 s.jump, .bool s.st] ∧ Below w.heap.size w wr) (fun k i _ => n - (intOf i).toNat)
  case atStart => exact ⟨0, f % 6, HS.zero, by omega, rfl, rfl, by omega, Fw_zero _ _, Blk.new w1 _ _, below_box hb1 _⟩
  case round =>
    obtain ⟨m, q, s0, hm, rfl, rfl, hq, F0, bS0, B0⟩ := hrel
    by_cases hmn : m = n
    · have hlt : ¬ (m : Int) < n := by omega
      have hld : decide ((m : Int) < n) = false := decide_eq_false hlt
      go_wp2_with fail
      go_ret
      exact ⟨rfl, B0⟩
    · obtain ⟨b, off, rfl, hb, hrow⟩ := HA.out (by omega)
      have hmd : decide ((m : Int) < n) = true := decide_eq_true (by omega)
      have hmd2 : decide (m < n) = true := decide_eq_true (by omega)
      obtain ⟨⟨t0, t1⟩, rA, rB⟩ := hrow m (by omega)
      have et : (tk m).tmod 20 = tk m % 20 := Int.tmod_eq_emod_of_nonneg t0
      have EC := Lib.hid (edge_code' hq)
      have EK := Lib.hid fun W => edge_any q hq.1 (Int.le_trans hq.2 (by decide)) W
      have CK := Lib.hid (Code_any (edg q))
      generalize codeF (edg q) = c0 at *
      generalize edg q = eg at *
      have em := tmod_mod (q + (1)) 6 (by decide)
      have h3 := tspec (q + (1)) 6 (by decide)
      have h4 : -6 < (q + (1)).tmod 6 ∧ (q + (1)).tmod 6 < 6 := by
        rcases Int.le_total 0 (q + (1)) with h0 | h0
        · have := h3.2.1 h0; omega
        · have := h3.2.2 h0; omega
      have e2 : IntKind.i64.wrap ((q + (1)).tmod 6 + 6) = (q + (1)).tmod 6 + 6 := IntWalk.i64_in _ (by omega)
      have e3 : IntKind.i64.wrap (q + (1)) = q + (1) := IntWalk.i64_in _ (by omega)
      have em2 : ((q + (1)).tmod 6 + 6) % 6 = (q + (1)) % 6 := by have e9 := Int.tmod_eq_emod_of_nonneg (a := (q + (1)).tmod 6 + 6) (b := 6) (by omega); rw [← e9]; exact em
      clear h3
      have EM := Lib.hid (And.intro em (And.intro e2 (And.intro e3 (And.intro h4 em2))))
      clear em e2 e3 h4 em2
      have RA := Lib.hid rA
      have RB := Lib.hid rB
      have t20 : 0 ≤ tk m % 20 ∧ tk m % 20 < 20 := by omega
      clear rA rB hrow
      have qA := (B0.cell (p := ⟨b, off + m * 2, none⟩) hb).trans RA.out
      go_wp2_with fail
      clear qA
      go_loopw [11] (fun nn wr => ∃ (r : Nat) (s : HS), (r : Int) ≤ tk m % 20 + 1 ∧ nn = .int .i64 r ∧ Fw (1) q m r s ∧ Blk wr w1.heap.size 23 #[.int .i64 s.sec, .int .i64 s.dir, .int .i64 s.since, .int .i64 s.span, .int .i64 s.bad, .int .i64 s.jump, .bool s.st] ∧ Below w.heap.size w wr) (fun nn _ => (tk m % 20 + 1 - intOf nn).toNat)
      case atStart => exact ⟨0, s0, by omega, rfl, F0, bS0, B0⟩
      case round =>
        clear bS0 B0 F0
        obtain ⟨r, s, hr, rfl, F, bS, B⟩ := hrel
        have hz := B.size
        have qA := (B.cell (p := ⟨b, off + m * 2, none⟩) hb).trans RA.out
        have qB := (B.cell (p := ⟨b, off + m * 2 + 1, none⟩) hb).trans RB.out
        by_cases hrt : (r : Int) ≤ tk m % 20
        · obtain ⟨cS, fS, zS⟩ := And.intro bS.cell (And.intro bS.frozen bS.lt)
          have hrd : decide ((r : Int) ≤ tk m % 20) = true := decide_eq_true hrt
          have ways : (bd m = false) ∨ (bd m = true ∧ ¬ (r : Int) = 1) ∨ (bd m = true ∧ (r : Int) = 1) := by
            cases bd m <;> simp <;> omega
          rcases ways with hbd | ⟨hbd, hr1⟩ | ⟨hbd, hr1⟩
          · by_cases hm0 : m = 0
            · have hdir0 : s.dir = 0 := by
                rcases F.2.2.2 with ⟨_, _, h⟩ | ⟨_, _, _, _, h⟩ | ⟨h, _⟩ | ⟨h, _⟩
                · rw [h]; rfl
                · exact h
                · omega
                · omega
              have SA := Step_any s c0
              rw [nrm_of_ok F.1, show secF c0 = q from EC.out] at SA
              have FS := Fw_step (j := q) F (.inl rfl) hq (by omega) (by omega) (.inl rfl)
              generalize stn s q = s2 at *
              have SA := Lib.hid SA
              obtain ⟨F2, hds, hfar⟩ := FS
              have j0 : (s2.jump != 0) = false := by have := F2.2.1; simp [this]
              have hD : (s.dir == (1)) = false := by rw [hdir0]; rfl
              have HD0 := Lib.hid hdir0
              have m0 : decide ((0 : Int) < (m : Int)) = false := decide_eq_false (by omega)
              have m1 : decide (0 < m) = false := decide_eq_false (by omega)
              have HM0 := Lib.hid hm0
              clear hdir0 hm0
              have F2 := Lib.hid F2
              clear hds hfar F
              go_wp2_with (first | (go_at_call 20; (with_reducible refine (EK.out _).mono ?_); rintro e w' ⟨rfl, rfl⟩) | (go_at_call 13; (with_reducible refine (CK.out _ (T.below B)).mono ?_); rintro e w' ⟨rfl, rfl⟩))
              (with_reducible refine (SA.out _ (T.below B)).mono ?_)
              rintro e w3 ⟨rfl, hb3⟩
              obtain ⟨bS3, cS3, fS3, zS3⟩ := bS.next hb3
              have B3 := below_call B hb3
              have bW3 := bS3
              have BW3 := B3
              have bT3 := Blk.new w3 23 #[.int .i64 s2.sec, .int .i64 s2.dir, .int .i64 s2.since, .int .i64 s2.span, .int .i64 s2.bad, .int .i64 s2.jump, .bool s2.st]
              have hz0 := B3.size
              have hq2 : ¬ w1.heap.size = w3.heap.size := by omega
              have bS3 := bS3.alloc (.cells #[.int .i64 s2.sec, .int .i64 s2.dir, .int .i64 s2.since, .int .i64 s2.span, .int .i64 s2.bad, .int .i64 s2.jump, .bool s2.st] 23)
              have B3 := below_box B3 (.cells #[.int .i64 s2.sec, .int .i64 s2.dir, .int .i64 s2.since, .int .i64 s2.span, .int .i64 s2.bad, .int .i64 s2.jump, .bool s2.st] 23)
              clear bS B
              obtain ⟨cT, fT, zT⟩ := And.intro bT3.cell (And.intro bT3.frozen bT3.lt)
              obtain ⟨cS, fS, zS⟩ := And.intro bS3.cell (And.intro bS3.frozen bS3.lt)
              go_wp2_with fail
              --
              exact ⟨⟨r + 1, s2, by omega, by go_num, F2.out, ((((((((bW3).put 0 _).put 1 _).put 2 _).put 3 _).put 4 _).put 5 _).put 6 _).alloc _, below_box (by repeat' (first | refine below_set ?_ (by omega) _ | with_reducible exact BW3)) _⟩, by simp [intOf]; omega⟩
            · by_cases hdir : s.dir = (1)
              · have SA := Step_any s c0
                rw [nrm_of_ok F.1, show secF c0 = q from EC.out] at SA
                have FS := Fw_step (j := q) F (.inl rfl) hq (by omega) (by omega) (.inl rfl)
                generalize stn s q = s2 at *
                have SA := Lib.hid SA
                obtain ⟨F2, hds, hfar⟩ := FS
                have j0 : (s2.jump != 0) = false := by have := F2.2.1; simp [this]
                have m0 : decide ((0 : Int) < (m : Int)) = true := decide_eq_true (by omega)
                have m1 : decide (0 < m) = true := decide_eq_true (by omega)
                have dd : (s2.dir != (1)) = false := by have := (hds (by omega)).1; simp [this]
                have ds : (s2.sec != q) = false := by have := (hds (by omega)).2; simp [this]
                have hD : (s.dir == (1)) = true := by simp [hdir]
                have far := hfar hdir
                unfold far65 at far
                have x1 := ang_in F.1
                have x2 := ang_in F2.1
                have y1 : 0 ≤ edg s.sec := by have := F.1.1; unfold edg; omega
                have y2 : edg (s.sec + 1) ≤ 65536 := by have := F.1.1; unfold edg; omega
                have y3 : 0 ≤ edg s2.sec := by have := F2.1.1; unfold edg; omega
                have y4 : edg (s2.sec + 1) ≤ 65536 := by have := F2.1.1; unfold edg; omega
                have AS := Angle_any s
                have AT := Angle_any s2
                rw [nrm_of_ok F.1] at AS
                rw [nrm_of_ok F2.1] at AT
                generalize ang s = a1 at *
                generalize ang s2 = a2 at *
                have a10 : 0 ≤ a1 ∧ a1 < 65536 := by omega
                have a20 : 0 ≤ a2 ∧ a2 < 65536 := by omega
                clear x1 x2 y1 y2 y3 y4
                have AS := Lib.hid AS
                have AT := Lib.hid AT
                have z1 : IntKind.i64.wrap (a2 - a1) = a2 - a1 := IntWalk.i64_in _ (by omega)
                have z2 : IntKind.i64.wrap ((a2 - a1) * (1)) = (a2 - a1) * (1) := IntWalk.i64_in _ (by omega)
                have z3 : IntKind.i64.wrap (a1 - a2) = a1 - a2 := IntWalk.i64_in _ (by omega)
                have z4 : IntKind.i64.wrap (-(a2 - a1)) = -(a2 - a1) := IntWalk.i64_in _ (by omega)
                have F2 := Lib.hid F2
                clear hds hfar F hdir
                by_cases hx : (a2 - a1) * (1) < 0
                · have _ : decide ((a2 - a1) < 0) = true := decide_eq_true (by omega)
                  have _ : IntKind.i64.wrap ((a2 - a1) + 65536) = (a2 - a1) + 65536 := IntWalk.i64_in _ (by omega)
                  have _ : decide (32768 < ((a2 - a1) + 65536)) = false := decide_eq_false (by omega)
                  go_wp2_with (first | (go_at_call 20; (with_reducible refine (EK.out _).mono ?_); rintro e w' ⟨rfl, rfl⟩) | (go_at_call 13; (with_reducible refine (CK.out _ (T.below B)).mono ?_); rintro e w' ⟨rfl, rfl⟩))
                  (with_reducible refine (SA.out _ (T.below B)).mono ?_)
                  rintro e w3 ⟨rfl, hb3⟩
                  obtain ⟨bS3, cS3, fS3, zS3⟩ := bS.next hb3
                  have B3 := below_call B hb3
                  have bW3 := bS3
                  have BW3 := B3
                  have bT3 := Blk.new w3 23 #[.int .i64 s2.sec, .int .i64 s2.dir, .int .i64 s2.since, .int .i64 s2.span, .int .i64 s2.bad, .int .i64 s2.jump, .bool s2.st]
                  have hz0 := B3.size
                  have hq2 : ¬ w1.heap.size = w3.heap.size := by omega
                  have bS3 := bS3.alloc (.cells #[.int .i64 s2.sec, .int .i64 s2.dir, .int .i64 s2.since, .int .i64 s2.span, .int .i64 s2.bad, .int .i64 s2.jump, .bool s2.st] 23)
                  have B3 := below_box B3 (.cells #[.int .i64 s2.sec, .int .i64 s2.dir, .int .i64 s2.since, .int .i64 s2.span, .int .i64 s2.bad, .int .i64 s2.jump, .bool s2.st] 23)
                  clear bS B
                  go_wp2_with fail
                  have bT0 := bT3.drew
                  have bS0 := bS3.drew
                  have B0 := B3.drew
                  -- 1
                  go_region_held3 (fun w' => (∀ i, w'.cell? ⟨w3.heap.size, i, none⟩ = (#[.int .i64 s2.sec, .int .i64 s2.dir, .int .i64 s2.since, .int .i64 s2.span, .int .i64 s2.bad, .int .i64 s2.jump, .bool s2.st] : Array Value)[i]?) ∧ (∀ i, w'.cell? ⟨w1.heap.size, i, none⟩ = (#[.int .i64 s.sec, .int .i64 s.dir, .int .i64 s.since, .int .i64 s.span, .int .i64 s.bad, .int .i64 s.jump, .bool s.st] : Array Value)[i]?))
                    (first
                      | with_reducible exact ⟨bT0.cell, bS0.cell⟩
                      | with_reducible exact ⟨bT4.cell, bS4.cell⟩
                      | with_reducible exact ⟨bT5.cell, bS5.cell⟩
                      | fail)
                    (first
                      | (go_at_call 21; (with_reducible refine (AT.out _ (T.below B0)).mono ?_); rintro e w4 ⟨rfl, hb4⟩; obtain ⟨bT4, _, _, _⟩ := bT0.next hb4; obtain ⟨bS4, _, _, _⟩ := bS0.next hb4; have B4 := below_call B0 hb4)
                      | (go_at_call 21; (with_reducible refine (AS.out _ (T.below B4)).mono ?_); rintro e w5 ⟨rfl, hb5⟩; obtain ⟨bT5, _, _, _⟩ := bT4.next hb5; obtain ⟨bS5, _, _, _⟩ := bS4.next hb5; have B5 := below_call B4 hb5))
                  obtain ⟨cT, fT, zT⟩ := And.intro bT5.cell (And.intro bT5.frozen bT5.lt)
                  obtain ⟨cS, fS, zS⟩ := And.intro bS5.cell (And.intro bS5.frozen bS5.lt)
                  -- 2
                  go_wp2_with fail
                  -- 3
                  exact ⟨⟨r + 1, s2, by omega, by go_num, F2.out, (((((((bS5).put 0 _).put 1 _).put 2 _).put 3 _).put 4 _).put 5 _).put 6 _, by repeat' (first | refine below_set ?_ (by omega) _ | with_reducible exact B5)⟩, by simp [intOf]; omega⟩
                · have _ : decide ((a2 - a1) < 0) = false := decide_eq_false (by omega)
                  have _ : decide (32768 < (a2 - a1)) = false := decide_eq_false (by omega)
                  go_wp2_with (first | (go_at_call 20; (with_reducible refine (EK.out _).mono ?_); rintro e w' ⟨rfl, rfl⟩) | (go_at_call 13; (with_reducible refine (CK.out _ (T.below B)).mono ?_); rintro e w' ⟨rfl, rfl⟩))
                  (with_reducible refine (SA.out _ (T.below B)).mono ?_)
                  rintro e w3 ⟨rfl, hb3⟩
                  obtain ⟨bS3, cS3, fS3, zS3⟩ := bS.next hb3
                  have B3 := below_call B hb3
                  have bW3 := bS3
                  have BW3 := B3
                  have bT3 := Blk.new w3 23 #[.int .i64 s2.sec, .int .i64 s2.dir, .int .i64 s2.since, .int .i64 s2.span, .int .i64 s2.bad, .int .i64 s2.jump, .bool s2.st]
                  have hz0 := B3.size
                  have hq2 : ¬ w1.heap.size = w3.heap.size := by omega
                  have bS3 := bS3.alloc (.cells #[.int .i64 s2.sec, .int .i64 s2.dir, .int .i64 s2.since, .int .i64 s2.span, .int .i64 s2.bad, .int .i64 s2.jump, .bool s2.st] 23)
                  have B3 := below_box B3 (.cells #[.int .i64 s2.sec, .int .i64 s2.dir, .int .i64 s2.since, .int .i64 s2.span, .int .i64 s2.bad, .int .i64 s2.jump, .bool s2.st] 23)
                  clear bS B
                  go_wp2_with fail
                  have bT0 := bT3.drew
                  have bS0 := bS3.drew
                  have B0 := B3.drew
                  -- 1
                  go_region_held3 (fun w' => (∀ i, w'.cell? ⟨w3.heap.size, i, none⟩ = (#[.int .i64 s2.sec, .int .i64 s2.dir, .int .i64 s2.since, .int .i64 s2.span, .int .i64 s2.bad, .int .i64 s2.jump, .bool s2.st] : Array Value)[i]?) ∧ (∀ i, w'.cell? ⟨w1.heap.size, i, none⟩ = (#[.int .i64 s.sec, .int .i64 s.dir, .int .i64 s.since, .int .i64 s.span, .int .i64 s.bad, .int .i64 s.jump, .bool s.st] : Array Value)[i]?))
                    (first
                      | with_reducible exact ⟨bT0.cell, bS0.cell⟩
                      | with_reducible exact ⟨bT4.cell, bS4.cell⟩
                      | with_reducible exact ⟨bT5.cell, bS5.cell⟩
                      | fail)
                    (first
                      | (go_at_call 21; (with_reducible refine (AT.out _ (T.below B0)).mono ?_); rintro e w4 ⟨rfl, hb4⟩; obtain ⟨bT4, _, _, _⟩ := bT0.next hb4; obtain ⟨bS4, _, _, _⟩ := bS0.next hb4; have B4 := below_call B0 hb4)
                      | (go_at_call 21; (with_reducible refine (AS.out _ (T.below B4)).mono ?_); rintro e w5 ⟨rfl, hb5⟩; obtain ⟨bT5, _, _, _⟩ := bT4.next hb5; obtain ⟨bS5, _, _, _⟩ := bS4.next hb5; have B5 := below_call B4 hb5))
                  obtain ⟨cT, fT, zT⟩ := And.intro bT5.cell (And.intro bT5.frozen bT5.lt)
                  obtain ⟨cS, fS, zS⟩ := And.intro bS5.cell (And.intro bS5.frozen bS5.lt)
                  -- 2
                  go_wp2_with fail
                  -- 3
                  exact ⟨⟨r + 1, s2, by omega, by go_num, F2.out, (((((((bS5).put 0 _).put 1 _).put 2 _).put 3 _).put 4 _).put 5 _).put 6 _, by repeat' (first | refine below_set ?_ (by omega) _ | with_reducible exact B5)⟩, by simp [intOf]; omega⟩
              · have SA := Step_any s c0
                rw [nrm_of_ok F.1, show secF c0 = q from EC.out] at SA
                have FS := Fw_step (j := q) F (.inl rfl) hq (by omega) (by omega) (.inl rfl)
                generalize stn s q = s2 at *
                have SA := Lib.hid SA
                obtain ⟨F2, hds, hfar⟩ := FS
                have j0 : (s2.jump != 0) = false := by have := F2.2.1; simp [this]
                have m0 : decide ((0 : Int) < (m : Int)) = true := decide_eq_true (by omega)
                have m1 : decide (0 < m) = true := decide_eq_true (by omega)
                have dd : (s2.dir != (1)) = false := by have := (hds (by omega)).1; simp [this]
                have ds : (s2.sec != q) = false := by have := (hds (by omega)).2; simp [this]
                have hD : (s.dir == (1)) = false := by simp [hdir]
                have F2 := Lib.hid F2
                clear hds hfar F hdir
                go_wp2_with (first | (go_at_call 20; (with_reducible refine (EK.out _).mono ?_); rintro e w' ⟨rfl, rfl⟩) | (go_at_call 13; (with_reducible refine (CK.out _ (T.below B)).mono ?_); rintro e w' ⟨rfl, rfl⟩))
                (with_reducible refine (SA.out _ (T.below B)).mono ?_)
                rintro e w3 ⟨rfl, hb3⟩
                obtain ⟨bS3, cS3, fS3, zS3⟩ := bS.next hb3
                have B3 := below_call B hb3
                have bW3 := bS3
                have BW3 := B3
                have bT3 := Blk.new w3 23 #[.int .i64 s2.sec, .int .i64 s2.dir, .int .i64 s2.since, .int .i64 s2.span, .int .i64 s2.bad, .int .i64 s2.jump, .bool s2.st]
                have hz0 := B3.size
                have hq2 : ¬ w1.heap.size = w3.heap.size := by omega
                have bS3 := bS3.alloc (.cells #[.int .i64 s2.sec, .int .i64 s2.dir, .int .i64 s2.since, .int .i64 s2.span, .int .i64 s2.bad, .int .i64 s2.jump, .bool s2.st] 23)
                have B3 := below_box B3 (.cells #[.int .i64 s2.sec, .int .i64 s2.dir, .int .i64 s2.since, .int .i64 s2.span, .int .i64 s2.bad, .int .i64 s2.jump, .bool s2.st] 23)
                clear bS B
                obtain ⟨cT, fT, zT⟩ := And.intro bT3.cell (And.intro bT3.frozen bT3.lt)
                obtain ⟨cS, fS, zS⟩ := And.intro bS3.cell (And.intro bS3.frozen bS3.lt)
                go_wp2_with fail
                --
                exact ⟨⟨r + 1, s2, by omega, by go_num, F2.out, ((((((((bW3).put 0 _).put 1 _).put 2 _).put 3 _).put 4 _).put 5 _).put 6 _).alloc _, below_box (by repeat' (first | refine below_set ?_ (by omega) _ | with_reducible exact BW3)) _⟩, by simp [intOf]; omega⟩
          · have hr1b : ((r : Int) == 1) = false := by simp [hr1]
            by_cases hm0 : m = 0
            · have hdir0 : s.dir = 0 := by
                rcases F.2.2.2 with ⟨_, _, h⟩ | ⟨_, _, _, _, h⟩ | ⟨h, _⟩ | ⟨h, _⟩
                · rw [h]; rfl
                · exact h
                · omega
                · omega
              have SA := Step_any s c0
              rw [nrm_of_ok F.1, show secF c0 = q from EC.out] at SA
              have FS := Fw_step (j := q) F (.inl rfl) hq (by omega) (by omega) (.inl rfl)
              generalize stn s q = s2 at *
              have SA := Lib.hid SA
              obtain ⟨F2, hds, hfar⟩ := FS
              have j0 : (s2.jump != 0) = false := by have := F2.2.1; simp [this]
              have hD : (s.dir == (1)) = false := by rw [hdir0]; rfl
              have HD0 := Lib.hid hdir0
              have m0 : decide ((0 : Int) < (m : Int)) = false := decide_eq_false (by omega)
              have m1 : decide (0 < m) = false := decide_eq_false (by omega)
              have HM0 := Lib.hid hm0
              clear hdir0 hm0
              have F2 := Lib.hid F2
              clear hds hfar F
              go_wp2_with (first | (go_at_call 20; (with_reducible refine (EK.out _).mono ?_); rintro e w' ⟨rfl, rfl⟩) | (go_at_call 13; (with_reducible refine (CK.out _ (T.below B)).mono ?_); rintro e w' ⟨rfl, rfl⟩))
              (with_reducible refine (SA.out _ (T.below B)).mono ?_)
              rintro e w3 ⟨rfl, hb3⟩
              obtain ⟨bS3, cS3, fS3, zS3⟩ := bS.next hb3
              have B3 := below_call B hb3
              have bW3 := bS3
              have BW3 := B3
              have bT3 := Blk.new w3 23 #[.int .i64 s2.sec, .int .i64 s2.dir, .int .i64 s2.since, .int .i64 s2.span, .int .i64 s2.bad, .int .i64 s2.jump, .bool s2.st]
              have hz0 := B3.size
              have hq2 : ¬ w1.heap.size = w3.heap.size := by omega
              have bS3 := bS3.alloc (.cells #[.int .i64 s2.sec, .int .i64 s2.dir, .int .i64 s2.since, .int .i64 s2.span, .int .i64 s2.bad, .int .i64 s2.jump, .bool s2.st] 23)
              have B3 := below_box B3 (.cells #[.int .i64 s2.sec, .int .i64 s2.dir, .int .i64 s2.since, .int .i64 s2.span, .int .i64 s2.bad, .int .i64 s2.jump, .bool s2.st] 23)
              clear bS B
              obtain ⟨cT, fT, zT⟩ := And.intro bT3.cell (And.intro bT3.frozen bT3.lt)
              obtain ⟨cS, fS, zS⟩ := And.intro bS3.cell (And.intro bS3.frozen bS3.lt)
              go_wp2_with fail
              --
              exact ⟨⟨r + 1, s2, by omega, by go_num, F2.out, ((((((((bW3).put 0 _).put 1 _).put 2 _).put 3 _).put 4 _).put 5 _).put 6 _).alloc _, below_box (by repeat' (first | refine below_set ?_ (by omega) _ | with_reducible exact BW3)) _⟩, by simp [intOf]; omega⟩
            · by_cases hdir : s.dir = (1)
              · have SA := Step_any s c0
                rw [nrm_of_ok F.1, show secF c0 = q from EC.out] at SA
                have FS := Fw_step (j := q) F (.inl rfl) hq (by omega) (by omega) (.inl rfl)
                generalize stn s q = s2 at *
                have SA := Lib.hid SA
                obtain ⟨F2, hds, hfar⟩ := FS
                have j0 : (s2.jump != 0) = false := by have := F2.2.1; simp [this]
                have m0 : decide ((0 : Int) < (m : Int)) = true := decide_eq_true (by omega)
                have m1 : decide (0 < m) = true := decide_eq_true (by omega)
                have dd : (s2.dir != (1)) = false := by have := (hds (by omega)).1; simp [this]
                have ds : (s2.sec != q) = false := by have := (hds (by omega)).2; simp [this]
                have hD : (s.dir == (1)) = true := by simp [hdir]
                have far := hfar hdir
                unfold far65 at far
                have x1 := ang_in F.1
                have x2 := ang_in F2.1
                have y1 : 0 ≤ edg s.sec := by have := F.1.1; unfold edg; omega
                have y2 : edg (s.sec + 1) ≤ 65536 := by have := F.1.1; unfold edg; omega
                have y3 : 0 ≤ edg s2.sec := by have := F2.1.1; unfold edg; omega
                have y4 : edg (s2.sec + 1) ≤ 65536 := by have := F2.1.1; unfold edg; omega
                have AS := Angle_any s
                have AT := Angle_any s2
                rw [nrm_of_ok F.1] at AS
                rw [nrm_of_ok F2.1] at AT
                generalize ang s = a1 at *
                generalize ang s2 = a2 at *
                have a10 : 0 ≤ a1 ∧ a1 < 65536 := by omega
                have a20 : 0 ≤ a2 ∧ a2 < 65536 := by omega
                clear x1 x2 y1 y2 y3 y4
                have AS := Lib.hid AS
                have AT := Lib.hid AT
                have z1 : IntKind.i64.wrap (a2 - a1) = a2 - a1 := IntWalk.i64_in _ (by omega)
                have z2 : IntKind.i64.wrap ((a2 - a1) * (1)) = (a2 - a1) * (1) := IntWalk.i64_in _ (by omega)
                have z3 : IntKind.i64.wrap (a1 - a2) = a1 - a2 := IntWalk.i64_in _ (by omega)
                have z4 : IntKind.i64.wrap (-(a2 - a1)) = -(a2 - a1) := IntWalk.i64_in _ (by omega)
                have F2 := Lib.hid F2
                clear hds hfar F hdir
                by_cases hx : (a2 - a1) * (1) < 0
                · have _ : decide ((a2 - a1) < 0) = true := decide_eq_true (by omega)
                  have _ : IntKind.i64.wrap ((a2 - a1) + 65536) = (a2 - a1) + 65536 := IntWalk.i64_in _ (by omega)
                  have _ : decide (32768 < ((a2 - a1) + 65536)) = false := decide_eq_false (by omega)
                  go_wp2_with (first | (go_at_call 20; (with_reducible refine (EK.out _).mono ?_); rintro e w' ⟨rfl, rfl⟩) | (go_at_call 13; (with_reducible refine (CK.out _ (T.below B)).mono ?_); rintro e w' ⟨rfl, rfl⟩))
                  (with_reducible refine (SA.out _ (T.below B)).mono ?_)
                  rintro e w3 ⟨rfl, hb3⟩
                  obtain ⟨bS3, cS3, fS3, zS3⟩ := bS.next hb3
                  have B3 := below_call B hb3
                  have bW3 := bS3
                  have BW3 := B3
                  have bT3 := Blk.new w3 23 #[.int .i64 s2.sec, .int .i64 s2.dir, .int .i64 s2.since, .int .i64 s2.span, .int .i64 s2.bad, .int .i64 s2.jump, .bool s2.st]
                  have hz0 := B3.size
                  have hq2 : ¬ w1.heap.size = w3.heap.size := by omega
                  have bS3 := bS3.alloc (.cells #[.int .i64 s2.sec, .int .i64 s2.dir, .int .i64 s2.since, .int .i64 s2.span, .int .i64 s2.bad, .int .i64 s2.jump, .bool s2.st] 23)
                  have B3 := below_box B3 (.cells #[.int .i64 s2.sec, .int .i64 s2.dir, .int .i64 s2.since, .int .i64 s2.span, .int .i64 s2.bad, .int .i64 s2.jump, .bool s2.st] 23)
                  clear bS B
                  go_wp2_with fail
                  have bT0 := bT3.drew
                  have bS0 := bS3.drew
                  have B0 := B3.drew
                  -- 1
                  go_region_held3 (fun w' => (∀ i, w'.cell? ⟨w3.heap.size, i, none⟩ = (#[.int .i64 s2.sec, .int .i64 s2.dir, .int .i64 s2.since, .int .i64 s2.span, .int .i64 s2.bad, .int .i64 s2.jump, .bool s2.st] : Array Value)[i]?) ∧ (∀ i, w'.cell? ⟨w1.heap.size, i, none⟩ = (#[.int .i64 s.sec, .int .i64 s.dir, .int .i64 s.since, .int .i64 s.span, .int .i64 s.bad, .int .i64 s.jump, .bool s.st] : Array Value)[i]?))
                    (first
                      | with_reducible exact ⟨bT0.cell, bS0.cell⟩
                      | with_reducible exact ⟨bT4.cell, bS4.cell⟩
                      | with_reducible exact ⟨bT5.cell, bS5.cell⟩
                      | fail)
                    (first
                      | (go_at_call 21; (with_reducible refine (AT.out _ (T.below B0)).mono ?_); rintro e w4 ⟨rfl, hb4⟩; obtain ⟨bT4, _, _, _⟩ := bT0.next hb4; obtain ⟨bS4, _, _, _⟩ := bS0.next hb4; have B4 := below_call B0 hb4)
                      | (go_at_call 21; (with_reducible refine (AS.out _ (T.below B4)).mono ?_); rintro e w5 ⟨rfl, hb5⟩; obtain ⟨bT5, _, _, _⟩ := bT4.next hb5; obtain ⟨bS5, _, _, _⟩ := bS4.next hb5; have B5 := below_call B4 hb5))
                  obtain ⟨cT, fT, zT⟩ := And.intro bT5.cell (And.intro bT5.frozen bT5.lt)
                  obtain ⟨cS, fS, zS⟩ := And.intro bS5.cell (And.intro bS5.frozen bS5.lt)
                  -- 2
                  go_wp2_with fail
                  -- 3
                  exact ⟨⟨r + 1, s2, by omega, by go_num, F2.out, (((((((bS5).put 0 _).put 1 _).put 2 _).put 3 _).put 4 _).put 5 _).put 6 _, by repeat' (first | refine below_set ?_ (by omega) _ | with_reducible exact B5)⟩, by simp [intOf]; omega⟩
                · have _ : decide ((a2 - a1) < 0) = false := decide_eq_false (by omega)
                  have _ : decide (32768 < (a2 - a1)) = false := decide_eq_false (by omega)
                  go_wp2_with (first | (go_at_call 20; (with_reducible refine (EK.out _).mono ?_); rintro e w' ⟨rfl, rfl⟩) | (go_at_call 13; (with_reducible refine (CK.out _ (T.below B)).mono ?_); rintro e w' ⟨rfl, rfl⟩))
                  (with_reducible refine (SA.out _ (T.below B)).mono ?_)
                  rintro e w3 ⟨rfl, hb3⟩
                  obtain ⟨bS3, cS3, fS3, zS3⟩ := bS.next hb3
                  have B3 := below_call B hb3
                  have bW3 := bS3
                  have BW3 := B3
                  have bT3 := Blk.new w3 23 #[.int .i64 s2.sec, .int .i64 s2.dir, .int .i64 s2.since, .int .i64 s2.span, .int .i64 s2.bad, .int .i64 s2.jump, .bool s2.st]
                  have hz0 := B3.size
                  have hq2 : ¬ w1.heap.size = w3.heap.size := by omega
                  have bS3 := bS3.alloc (.cells #[.int .i64 s2.sec, .int .i64 s2.dir, .int .i64 s2.since, .int .i64 s2.span, .int .i64 s2.bad, .int .i64 s2.jump, .bool s2.st] 23)
                  have B3 := below_box B3 (.cells #[.int .i64 s2.sec, .int .i64 s2.dir, .int .i64 s2.since, .int .i64 s2.span, .int .i64 s2.bad, .int .i64 s2.jump, .bool s2.st] 23)
                  clear bS B
                  go_wp2_with fail
                  have bT0 := bT3.drew
                  have bS0 := bS3.drew
                  have B0 := B3.drew
                  -- 1
                  go_region_held3 (fun w' => (∀ i, w'.cell? ⟨w3.heap.size, i, none⟩ = (#[.int .i64 s2.sec, .int .i64 s2.dir, .int .i64 s2.since, .int .i64 s2.span, .int .i64 s2.bad, .int .i64 s2.jump, .bool s2.st] : Array Value)[i]?) ∧ (∀ i, w'.cell? ⟨w1.heap.size, i, none⟩ = (#[.int .i64 s.sec, .int .i64 s.dir, .int .i64 s.since, .int .i64 s.span, .int .i64 s.bad, .int .i64 s.jump, .bool s.st] : Array Value)[i]?))
                    (first
                      | with_reducible exact ⟨bT0.cell, bS0.cell⟩
                      | with_reducible exact ⟨bT4.cell, bS4.cell⟩
                      | with_reducible exact ⟨bT5.cell, bS5.cell⟩
                      | fail)
                    (first
                      | (go_at_call 21; (with_reducible refine (AT.out _ (T.below B0)).mono ?_); rintro e w4 ⟨rfl, hb4⟩; obtain ⟨bT4, _, _, _⟩ := bT0.next hb4; obtain ⟨bS4, _, _, _⟩ := bS0.next hb4; have B4 := below_call B0 hb4)
                      | (go_at_call 21; (with_reducible refine (AS.out _ (T.below B4)).mono ?_); rintro e w5 ⟨rfl, hb5⟩; obtain ⟨bT5, _, _, _⟩ := bT4.next hb5; obtain ⟨bS5, _, _, _⟩ := bS4.next hb5; have B5 := below_call B4 hb5))
                  obtain ⟨cT, fT, zT⟩ := And.intro bT5.cell (And.intro bT5.frozen bT5.lt)
                  obtain ⟨cS, fS, zS⟩ := And.intro bS5.cell (And.intro bS5.frozen bS5.lt)
                  -- 2
                  go_wp2_with fail
                  -- 3
                  exact ⟨⟨r + 1, s2, by omega, by go_num, F2.out, (((((((bS5).put 0 _).put 1 _).put 2 _).put 3 _).put 4 _).put 5 _).put 6 _, by repeat' (first | refine below_set ?_ (by omega) _ | with_reducible exact B5)⟩, by simp [intOf]; omega⟩
              · have SA := Step_any s c0
                rw [nrm_of_ok F.1, show secF c0 = q from EC.out] at SA
                have FS := Fw_step (j := q) F (.inl rfl) hq (by omega) (by omega) (.inl rfl)
                generalize stn s q = s2 at *
                have SA := Lib.hid SA
                obtain ⟨F2, hds, hfar⟩ := FS
                have j0 : (s2.jump != 0) = false := by have := F2.2.1; simp [this]
                have m0 : decide ((0 : Int) < (m : Int)) = true := decide_eq_true (by omega)
                have m1 : decide (0 < m) = true := decide_eq_true (by omega)
                have dd : (s2.dir != (1)) = false := by have := (hds (by omega)).1; simp [this]
                have ds : (s2.sec != q) = false := by have := (hds (by omega)).2; simp [this]
                have hD : (s.dir == (1)) = false := by simp [hdir]
                have F2 := Lib.hid F2
                clear hds hfar F hdir
                go_wp2_with (first | (go_at_call 20; (with_reducible refine (EK.out _).mono ?_); rintro e w' ⟨rfl, rfl⟩) | (go_at_call 13; (with_reducible refine (CK.out _ (T.below B)).mono ?_); rintro e w' ⟨rfl, rfl⟩))
                (with_reducible refine (SA.out _ (T.below B)).mono ?_)
                rintro e w3 ⟨rfl, hb3⟩
                obtain ⟨bS3, cS3, fS3, zS3⟩ := bS.next hb3
                have B3 := below_call B hb3
                have bW3 := bS3
                have BW3 := B3
                have bT3 := Blk.new w3 23 #[.int .i64 s2.sec, .int .i64 s2.dir, .int .i64 s2.since, .int .i64 s2.span, .int .i64 s2.bad, .int .i64 s2.jump, .bool s2.st]
                have hz0 := B3.size
                have hq2 : ¬ w1.heap.size = w3.heap.size := by omega
                have bS3 := bS3.alloc (.cells #[.int .i64 s2.sec, .int .i64 s2.dir, .int .i64 s2.since, .int .i64 s2.span, .int .i64 s2.bad, .int .i64 s2.jump, .bool s2.st] 23)
                have B3 := below_box B3 (.cells #[.int .i64 s2.sec, .int .i64 s2.dir, .int .i64 s2.since, .int .i64 s2.span, .int .i64 s2.bad, .int .i64 s2.jump, .bool s2.st] 23)
                clear bS B
                obtain ⟨cT, fT, zT⟩ := And.intro bT3.cell (And.intro bT3.frozen bT3.lt)
                obtain ⟨cS, fS, zS⟩ := And.intro bS3.cell (And.intro bS3.frozen bS3.lt)
                go_wp2_with fail
                --
                exact ⟨⟨r + 1, s2, by omega, by go_num, F2.out, ((((((((bW3).put 0 _).put 1 _).put 2 _).put 3 _).put 4 _).put 5 _).put 6 _).alloc _, below_box (by repeat' (first | refine below_set ?_ (by omega) _ | with_reducible exact BW3)) _⟩, by simp [intOf]; omega⟩
          · have hr1b : ((r : Int) == 1) = true := by simp [hr1]
            by_cases hm0 : m = 0
            · have hdir0 : s.dir = 0 := by
                rcases F.2.2.2 with ⟨_, _, h⟩ | ⟨_, _, _, _, h⟩ | ⟨h, _⟩ | ⟨h, _⟩
                · rw [h]; rfl
                · exact h
                · omega
                · omega
              have SA := Step_any s 7
              rw [nrm_of_ok F.1, show secF 7 = (-1) from by decide] at SA
              have FS := Fw_step (j := (-1)) F (.inl rfl) hq (by omega) (by omega) (.inr ⟨rfl, by omega⟩)
              generalize stn s (-1) = s2 at *
              have SA := Lib.hid SA
              obtain ⟨F2, hds, hfar⟩ := FS
              have j0 : (s2.jump != 0) = false := by have := F2.2.1; simp [this]
              have hD : (s.dir == (1)) = false := by rw [hdir0]; rfl
              have HD0 := Lib.hid hdir0
              have m0 : decide ((0 : Int) < (m : Int)) = false := decide_eq_false (by omega)
              have m1 : decide (0 < m) = false := decide_eq_false (by omega)
              have HM0 := Lib.hid hm0
              clear hdir0 hm0
              have F2 := Lib.hid F2
              clear hds hfar F
              go_wp2_with (first | (go_at_call 20; (with_reducible refine (EK.out _).mono ?_); rintro e w' ⟨rfl, rfl⟩) | (go_at_call 13; (with_reducible refine (CK.out _ (T.below B)).mono ?_); rintro e w' ⟨rfl, rfl⟩))
              (with_reducible refine (SA.out _ (T.below B)).mono ?_)
              rintro e w3 ⟨rfl, hb3⟩
              obtain ⟨bS3, cS3, fS3, zS3⟩ := bS.next hb3
              have B3 := below_call B hb3
              have bW3 := bS3
              have BW3 := B3
              have bT3 := Blk.new w3 23 #[.int .i64 s2.sec, .int .i64 s2.dir, .int .i64 s2.since, .int .i64 s2.span, .int .i64 s2.bad, .int .i64 s2.jump, .bool s2.st]
              have hz0 := B3.size
              have hq2 : ¬ w1.heap.size = w3.heap.size := by omega
              have bS3 := bS3.alloc (.cells #[.int .i64 s2.sec, .int .i64 s2.dir, .int .i64 s2.since, .int .i64 s2.span, .int .i64 s2.bad, .int .i64 s2.jump, .bool s2.st] 23)
              have B3 := below_box B3 (.cells #[.int .i64 s2.sec, .int .i64 s2.dir, .int .i64 s2.since, .int .i64 s2.span, .int .i64 s2.bad, .int .i64 s2.jump, .bool s2.st] 23)
              clear bS B
              obtain ⟨cT, fT, zT⟩ := And.intro bT3.cell (And.intro bT3.frozen bT3.lt)
              obtain ⟨cS, fS, zS⟩ := And.intro bS3.cell (And.intro bS3.frozen bS3.lt)
              go_wp2_with fail
              --
              exact ⟨⟨r + 1, s2, by omega, by go_num, F2.out, ((((((((bW3).put 0 _).put 1 _).put 2 _).put 3 _).put 4 _).put 5 _).put 6 _).alloc _, below_box (by repeat' (first | refine below_set ?_ (by omega) _ | with_reducible exact BW3)) _⟩, by simp [intOf]; omega⟩
            · by_cases hdir : s.dir = (1)
              · have SA := Step_any s 7
                rw [nrm_of_ok F.1, show secF 7 = (-1) from by decide] at SA
                have FS := Fw_step (j := (-1)) F (.inl rfl) hq (by omega) (by omega) (.inr ⟨rfl, by omega⟩)
                generalize stn s (-1) = s2 at *
                have SA := Lib.hid SA
                obtain ⟨F2, hds, hfar⟩ := FS
                have j0 : (s2.jump != 0) = false := by have := F2.2.1; simp [this]
                have m0 : decide ((0 : Int) < (m : Int)) = true := decide_eq_true (by omega)
                have m1 : decide (0 < m) = true := decide_eq_true (by omega)
                have dd : (s2.dir != (1)) = false := by have := (hds (by omega)).1; simp [this]
                have ds : (s2.sec != q) = false := by have := (hds (by omega)).2; simp [this]
                have hD : (s.dir == (1)) = true := by simp [hdir]
                have far := hfar hdir
                unfold far65 at far
                have x1 := ang_in F.1
                have x2 := ang_in F2.1
                have y1 : 0 ≤ edg s.sec := by have := F.1.1; unfold edg; omega
                have y2 : edg (s.sec + 1) ≤ 65536 := by have := F.1.1; unfold edg; omega
                have y3 : 0 ≤ edg s2.sec := by have := F2.1.1; unfold edg; omega
                have y4 : edg (s2.sec + 1) ≤ 65536 := by have := F2.1.1; unfold edg; omega
                have AS := Angle_any s
                have AT := Angle_any s2
                rw [nrm_of_ok F.1] at AS
                rw [nrm_of_ok F2.1] at AT
                generalize ang s = a1 at *
                generalize ang s2 = a2 at *
                have a10 : 0 ≤ a1 ∧ a1 < 65536 := by omega
                have a20 : 0 ≤ a2 ∧ a2 < 65536 := by omega
                clear x1 x2 y1 y2 y3 y4
                have AS := Lib.hid AS
                have AT := Lib.hid AT
                have z1 : IntKind.i64.wrap (a2 - a1) = a2 - a1 := IntWalk.i64_in _ (by omega)
                have z2 : IntKind.i64.wrap ((a2 - a1) * (1)) = (a2 - a1) * (1) := IntWalk.i64_in _ (by omega)
                have z3 : IntKind.i64.wrap (a1 - a2) = a1 - a2 := IntWalk.i64_in _ (by omega)
                have z4 : IntKind.i64.wrap (-(a2 - a1)) = -(a2 - a1) := IntWalk.i64_in _ (by omega)
                have F2 := Lib.hid F2
                clear hds hfar F hdir
                by_cases hx : (a2 - a1) * (1) < 0
                · have _ : decide ((a2 - a1) < 0) = true := decide_eq_true (by omega)
                  have _ : IntKind.i64.wrap ((a2 - a1) + 65536) = (a2 - a1) + 65536 := IntWalk.i64_in _ (by omega)
                  have _ : decide (32768 < ((a2 - a1) + 65536)) = false := decide_eq_false (by omega)
                  go_wp2_with (first | (go_at_call 20; (with_reducible refine (EK.out _).mono ?_); rintro e w' ⟨rfl, rfl⟩) | (go_at_call 13; (with_reducible refine (CK.out _ (T.below B)).mono ?_); rintro e w' ⟨rfl, rfl⟩))
                  (with_reducible refine (SA.out _ (T.below B)).mono ?_)
                  rintro e w3 ⟨rfl, hb3⟩
                  obtain ⟨bS3, cS3, fS3, zS3⟩ := bS.next hb3
                  have B3 := below_call B hb3
                  have bW3 := bS3
                  have BW3 := B3
                  have bT3 := Blk.new w3 23 #[.int .i64 s2.sec, .int .i64 s2.dir, .int .i64 s2.since, .int .i64 s2.span, .int .i64 s2.bad, .int .i64 s2.jump, .bool s2.st]
                  have hz0 := B3.size
                  have hq2 : ¬ w1.heap.size = w3.heap.size := by omega
                  have bS3 := bS3.alloc (.cells #[.int .i64 s2.sec, .int .i64 s2.dir, .int .i64 s2.since, .int .i64 s2.span, .int .i64 s2.bad, .int .i64 s2.jump, .bool s2.st] 23)
                  have B3 := below_box B3 (.cells #[.int .i64 s2.sec, .int .i64 s2.dir, .int .i64 s2.since, .int .i64 s2.span, .int .i64 s2.bad, .int .i64 s2.jump, .bool s2.st] 23)
                  clear bS B
                  go_wp2_with fail
                  have bT0 := bT3.drew
                  have bS0 := bS3.drew
                  have B0 := B3.drew
                  -- 1
                  go_region_held3 (fun w' => (∀ i, w'.cell? ⟨w3.heap.size, i, none⟩ = (#[.int .i64 s2.sec, .int .i64 s2.dir, .int .i64 s2.since, .int .i64 s2.span, .int .i64 s2.bad, .int .i64 s2.jump, .bool s2.st] : Array Value)[i]?) ∧ (∀ i, w'.cell? ⟨w1.heap.size, i, none⟩ = (#[.int .i64 s.sec, .int .i64 s.dir, .int .i64 s.since, .int .i64 s.span, .int .i64 s.bad, .int .i64 s.jump, .bool s.st] : Array Value)[i]?))
                    (first
                      | with_reducible exact ⟨bT0.cell, bS0.cell⟩
                      | with_reducible exact ⟨bT4.cell, bS4.cell⟩
                      | with_reducible exact ⟨bT5.cell, bS5.cell⟩
                      | fail)
                    (first
                      | (go_at_call 21; (with_reducible refine (AT.out _ (T.below B0)).mono ?_); rintro e w4 ⟨rfl, hb4⟩; obtain ⟨bT4, _, _, _⟩ := bT0.next hb4; obtain ⟨bS4, _, _, _⟩ := bS0.next hb4; have B4 := below_call B0 hb4)
                      | (go_at_call 21; (with_reducible refine (AS.out _ (T.below B4)).mono ?_); rintro e w5 ⟨rfl, hb5⟩; obtain ⟨bT5, _, _, _⟩ := bT4.next hb5; obtain ⟨bS5, _, _, _⟩ := bS4.next hb5; have B5 := below_call B4 hb5))
                  obtain ⟨cT, fT, zT⟩ := And.intro bT5.cell (And.intro bT5.frozen bT5.lt)
                  obtain ⟨cS, fS, zS⟩ := And.intro bS5.cell (And.intro bS5.frozen bS5.lt)
                  -- 2
                  go_wp2_with fail
                  -- 3
                  exact ⟨⟨r + 1, s2, by omega, by go_num, F2.out, (((((((bS5).put 0 _).put 1 _).put 2 _).put 3 _).put 4 _).put 5 _).put 6 _, by repeat' (first | refine below_set ?_ (by omega) _ | with_reducible exact B5)⟩, by simp [intOf]; omega⟩
                · have _ : decide ((a2 - a1) < 0) = false := decide_eq_false (by omega)
                  have _ : decide (32768 < (a2 - a1)) = false := decide_eq_false (by omega)
                  go_wp2_with (first | (go_at_call 20; (with_reducible refine (EK.out _).mono ?_); rintro e w' ⟨rfl, rfl⟩) | (go_at_call 13; (with_reducible refine (CK.out _ (T.below B)).mono ?_); rintro e w' ⟨rfl, rfl⟩))
                  (with_reducible refine (SA.out _ (T.below B)).mono ?_)
                  rintro e w3 ⟨rfl, hb3⟩
                  obtain ⟨bS3, cS3, fS3, zS3⟩ := bS.next hb3
                  have B3 := below_call B hb3
                  have bW3 := bS3
                  have BW3 := B3
                  have bT3 := Blk.new w3 23 #[.int .i64 s2.sec, .int .i64 s2.dir, .int .i64 s2.since, .int .i64 s2.span, .int .i64 s2.bad, .int .i64 s2.jump, .bool s2.st]
                  have hz0 := B3.size
                  have hq2 : ¬ w1.heap.size = w3.heap.size := by omega
                  have bS3 := bS3.alloc (.cells #[.int .i64 s2.sec, .int .i64 s2.dir, .int .i64 s2.since, .int .i64 s2.span, .int .i64 s2.bad, .int .i64 s2.jump, .bool s2.st] 23)
                  have B3 := below_box B3 (.cells #[.int .i64 s2.sec, .int .i64 s2.dir, .int .i64 s2.since, .int .i64 s2.span, .int .i64 s2.bad, .int .i64 s2.jump, .bool s2.st] 23)
                  clear bS B
                  go_wp2_with fail
                  have bT0 := bT3.drew
                  have bS0 := bS3.drew
                  have B0 := B3.drew
                  -- 1
                  go_region_held3 (fun w' => (∀ i, w'.cell? ⟨w3.heap.size, i, none⟩ = (#[.int .i64 s2.sec, .int .i64 s2.dir, .int .i64 s2.since, .int .i64 s2.span, .int .i64 s2.bad, .int .i64 s2.jump, .bool s2.st] : Array Value)[i]?) ∧ (∀ i, w'.cell? ⟨w1.heap.size, i, none⟩ = (#[.int .i64 s.sec, .int .i64 s.dir, .int .i64 s.since, .int .i64 s.span, .int .i64 s.bad, .int .i64 s.jump, .bool s.st] : Array Value)[i]?))
                    (first
                      | with_reducible exact ⟨bT0.cell, bS0.cell⟩
                      | with_reducible exact ⟨bT4.cell, bS4.cell⟩
                      | with_reducible exact ⟨bT5.cell, bS5.cell⟩
                      | fail)
                    (first
                      | (go_at_call 21; (with_reducible refine (AT.out _ (T.below B0)).mono ?_); rintro e w4 ⟨rfl, hb4⟩; obtain ⟨bT4, _, _, _⟩ := bT0.next hb4; obtain ⟨bS4, _, _, _⟩ := bS0.next hb4; have B4 := below_call B0 hb4)
                      | (go_at_call 21; (with_reducible refine (AS.out _ (T.below B4)).mono ?_); rintro e w5 ⟨rfl, hb5⟩; obtain ⟨bT5, _, _, _⟩ := bT4.next hb5; obtain ⟨bS5, _, _, _⟩ := bS4.next hb5; have B5 := below_call B4 hb5))
                  obtain ⟨cT, fT, zT⟩ := And.intro bT5.cell (And.intro bT5.frozen bT5.lt)
                  obtain ⟨cS, fS, zS⟩ := And.intro bS5.cell (And.intro bS5.frozen bS5.lt)
                  -- 2
                  go_wp2_with fail
                  -- 3
                  exact ⟨⟨r + 1, s2, by omega, by go_num, F2.out, (((((((bS5).put 0 _).put 1 _).put 2 _).put 3 _).put 4 _).put 5 _).put 6 _, by repeat' (first | refine below_set ?_ (by omega) _ | with_reducible exact B5)⟩, by simp [intOf]; omega⟩
              · have SA := Step_any s 7
                rw [nrm_of_ok F.1, show secF 7 = (-1) from by decide] at SA
                have FS := Fw_step (j := (-1)) F (.inl rfl) hq (by omega) (by omega) (.inr ⟨rfl, by omega⟩)
                generalize stn s (-1) = s2 at *
                have SA := Lib.hid SA
                obtain ⟨F2, hds, hfar⟩ := FS
                have j0 : (s2.jump != 0) = false := by have := F2.2.1; simp [this]
                have m0 : decide ((0 : Int) < (m : Int)) = true := decide_eq_true (by omega)
                have m1 : decide (0 < m) = true := decide_eq_true (by omega)
                have dd : (s2.dir != (1)) = false := by have := (hds (by omega)).1; simp [this]
                have ds : (s2.sec != q) = false := by have := (hds (by omega)).2; simp [this]
                have hD : (s.dir == (1)) = false := by simp [hdir]
                have F2 := Lib.hid F2
                clear hds hfar F hdir
                go_wp2_with (first | (go_at_call 20; (with_reducible refine (EK.out _).mono ?_); rintro e w' ⟨rfl, rfl⟩) | (go_at_call 13; (with_reducible refine (CK.out _ (T.below B)).mono ?_); rintro e w' ⟨rfl, rfl⟩))
                (with_reducible refine (SA.out _ (T.below B)).mono ?_)
                rintro e w3 ⟨rfl, hb3⟩
                obtain ⟨bS3, cS3, fS3, zS3⟩ := bS.next hb3
                have B3 := below_call B hb3
                have bW3 := bS3
                have BW3 := B3
                have bT3 := Blk.new w3 23 #[.int .i64 s2.sec, .int .i64 s2.dir, .int .i64 s2.since, .int .i64 s2.span, .int .i64 s2.bad, .int .i64 s2.jump, .bool s2.st]
                have hz0 := B3.size
                have hq2 : ¬ w1.heap.size = w3.heap.size := by omega
                have bS3 := bS3.alloc (.cells #[.int .i64 s2.sec, .int .i64 s2.dir, .int .i64 s2.since, .int .i64 s2.span, .int .i64 s2.bad, .int .i64 s2.jump, .bool s2.st] 23)
                have B3 := below_box B3 (.cells #[.int .i64 s2.sec, .int .i64 s2.dir, .int .i64 s2.since, .int .i64 s2.span, .int .i64 s2.bad, .int .i64 s2.jump, .bool s2.st] 23)
                clear bS B
                obtain ⟨cT, fT, zT⟩ := And.intro bT3.cell (And.intro bT3.frozen bT3.lt)
                obtain ⟨cS, fS, zS⟩ := And.intro bS3.cell (And.intro bS3.frozen bS3.lt)
                go_wp2_with fail
                --
                exact ⟨⟨r + 1, s2, by omega, by go_num, F2.out, ((((((((bW3).put 0 _).put 1 _).put 2 _).put 3 _).put 4 _).put 5 _).put 6 _).alloc _, below_box (by repeat' (first | refine below_set ?_ (by omega) _ | with_reducible exact BW3)) _⟩, by simp [intOf]; omega⟩
        · obtain ⟨em, e2, e3, h4, em2⟩ := EM.out
          have hrd : decide ((r : Int) ≤ tk m % 20) = false := decide_eq_false hrt
          have FT := Fw_turn F (by omega) (by omega)
          have FT := Lib.hid FT
          clear F
          go_wp2_with fail
          exact ⟨⟨m + 1, (q + (1)) % 6, s, by omega, by go_num, by first | rfl | (congr 1; omega), by omega, FT.out, bS, B⟩, by simp [intOf]; omega⟩
end Go.Proofs.YtehkmnkbmhldgaaDoor
