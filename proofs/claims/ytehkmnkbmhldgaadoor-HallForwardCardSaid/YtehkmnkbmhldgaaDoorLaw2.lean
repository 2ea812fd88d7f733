/- The walks of HallCodes and HallAngles. -/
import Derived.Test.YtehkmnkbmhldgaaDoorAwake
import Derived.Test.YtehkmnkbmhldgaaDoorCodes
namespace Go.Proofs.YtehkmnkbmhldgaaDoor
open Go.RowKit

theorem is_two (w : World) : Calls Tryd.prog 17 #[.iface 33 (.int .i64 2), .int .i64 2] w fun e w' => e = .returned (.bool true) ∧ w = w' := by
  have hta : ∀ w, (Instr.typeAssert (.iface 33 (.int .i64 2)) 29 33 true).run Tryd.prog w = .ok (.tuple #[.int .i64 2, .bool true]) w := fun _ => by kernel_rfl
  go_enter Tryd.func17, Tryd.ntmps17
  go_wp2
  go_ret
  exact ⟨rfl, rfl⟩

set_option maxHeartbeats 1000000 in
theorem codes_law (x c : Int) (w : World) (T : Tabs w) : Calls Tryd.prog 4 #[.int .i64 x, .int .i64 c] w fun e w' => e = .returned (.bool true) ∧ Below w.heap.size w w' := by
  have h0 : 0 ≤ secF (codeF x) := by rw [secF_codeF]; omega
  have CO := Lib.hid (Code_any x)
  have RC := Lib.hid (rCode_any x)
  have SY := Lib.hid (Sector_yes (codeF x) h0)
  have RS := Lib.hid (rSector_any (codeF x))
  have SN := Lib.hid (Sector_no c)
  have SZ := Lib.hid (Sector_yes c)
  have RD := Lib.hid (rSector_any c)
  generalize secF (codeF x) = k at *
  generalize codeF x = y at *
  generalize secF c = j at *
  go_enter Tryd.func4, Tryd.ntmps4
  go_wp2_with fail
  (with_reducible refine (awake_any _ T).mono ?_)
  rintro e w1 ⟨rfl, hb1⟩
  have T1 := T.below hb1
  go_wp2_with fail
  (with_reducible refine (CO.out _ T1).mono ?_)
  rintro e w' ⟨rfl, rfl⟩
  go_wp2_with fail
  (with_reducible refine (SY.out _ T1).mono ?_)
  rintro e w' ⟨rfl, rfl⟩
  go_wp2_with fail
  (with_reducible refine (RC.out _).mono ?_)
  rintro e w2 ⟨rfl, hb2⟩
  have B2 := below_call hb1 hb2
  go_wp2_with fail
  (with_reducible refine (RS.out _).mono ?_)
  rintro e w3 ⟨rfl, hb3⟩
  have B3 := below_call B2 hb3
  go_wp2_with fail
  by_cases hj : j < 0
  · (with_reducible refine (SN.out hj _ (T.below B3)).mono ?_)
    rintro e w' ⟨rfl, rfl⟩
    go_wp2_with fail
    (with_reducible refine (RD.out _).mono ?_)
    rintro e w4 ⟨rfl, hb4⟩
    have B4 := below_call B3 hb4
    go_wp2_with fail
    (with_reducible refine (is_two _).mono ?_)
    rintro e w' ⟨rfl, rfl⟩
    go_wp2_with fail
    go_ret
    exact ⟨rfl, B4⟩
  · (with_reducible refine (SZ.out (by omega) _ (T.below B3)).mono ?_)
    rintro e w' ⟨rfl, rfl⟩
    go_wp2_with fail
    (with_reducible refine (RD.out _).mono ?_)
    rintro e w4 ⟨rfl, hb4⟩
    have B4 := below_call B3 hb4
    go_wp2_with fail
    go_ret
    exact ⟨rfl, B4⟩

theorem ang_in {n : HS} (h : n.ok) : edg n.sec ≤ ang n ∧ ang n < edg (n.sec + 1) := by
  obtain ⟨⟨h1, h2⟩, ⟨h3, h4⟩, ⟨h5, h6⟩, ⟨h7, h8⟩, ⟨h9, h10⟩, h11, h12⟩ := h
  have hE : 0 ≤ edg n.sec ∧ edg n.sec + 10922 ≤ edg (n.sec + 1) ∧ edg (n.sec + 1) ≤ edg n.sec + 10923 ∧ edg (n.sec + 1) ≤ 65536 := by unfold edg; omega
  have hq := fun g => quot_le (a := min n.since n.span) (b := edg (n.sec + 1) - 1 - edg n.sec) (s := n.span) (by omega) (by omega) g (by omega)
  unfold ang
  by_cases g : n.dir = 0 ∨ n.span = 0
  · rw [if_pos g]; omega
  · rw [if_neg g]
    have hq := hq (by omega)
    generalize (min n.since n.span * (edg (n.sec + 1) - 1 - edg n.sec)).tdiv n.span = Q at *
    by_cases g2 : n.dir < 0
    · rw [if_pos g2]; omega
    · rw [if_neg g2]; omega
theorem ang_sec {n : HS} (h : n.ok) : (secN (ang n % 65536) : Int) = n.sec := by
  have h2 := ang_in h
  obtain ⟨⟨h3, h4⟩, _⟩ := h
  obtain ⟨q, hq⟩ : ∃ q : Nat, n.sec = q := ⟨n.sec.toNat, by omega⟩
  rw [hq] at h2 h3 h4 ⊢
  have hE := edg_le q (by omega)
  have e : ang n % 65536 = ang n := by omega
  rw [e, secN_uniq (k := q) (by omega) (by rw [edgL_eq q (by omega)]; exact h2.1) (by rw [edgL_eq (q + 1) (by omega)]; push_cast; exact h2.2) (by omega)]

set_option maxHeartbeats 1600000 in
theorem angles_law (s : HS) (w : World) (T : Tabs w) : Calls Tryd.prog 8 #[.agg #[.int .i64 s.sec, .int .i64 s.dir, .int .i64 s.since, .int .i64 s.span, .int .i64 s.bad, .int .i64 s.jump, .bool s.st]] w fun e w' => e = .returned (.bool true) ∧ Below w.heap.size w w' := by
  have hs := ang_sec (nrm_ok s)
  have h0 : secF (codeF (ang (nrm s))) = (nrm s).sec := by rw [secF_codeF]; exact hs
  have h1 := (nrm_ok s).1
  have AA := Lib.hid (Angle_any s)
  have RA := Lib.hid (rAngle_any s)
  have PA := Lib.hid (Speed_any s)
  have PR := Lib.hid (rSpeed_any s)
  have NO := Lib.hid (rNormal_any s)
  have CO := Lib.hid (Code_any (ang (nrm s)))
  have SY := Lib.hid (Sector_yes (codeF (ang (nrm s))) (by rw [h0]; exact h1.1))
  rw [h0] at SY
  clear h0 hs h1
  generalize codeF (ang (nrm s)) = y at *
  generalize ang (nrm s) = a at *
  generalize spe (nrm s) = p at *
  generalize nrm s = n at *
  have hfd : ∀ w, (Instr.field 23 (.agg #[.int .i64 n.sec, .int .i64 n.dir, .int .i64 n.since, .int .i64 n.span, .int .i64 n.bad, .int .i64 n.jump, .bool n.st]) 0).run Tryd.prog w = .ok (.int .i64 n.sec) w := fun _ => by kernel_rfl
  go_enter Tryd.func8, Tryd.ntmps8
  go_wp2_with fail
  have K0 := (Kp.base w).new #[.int .i64 s.sec, .int .i64 s.dir, .int .i64 s.since, .int .i64 s.span, .int .i64 s.bad, .int .i64 s.jump, .bool s.st] 23
  (with_reducible refine (awake_any _ (T.below K0.below)).mono ?_)
  rintro e w1 ⟨rfl, hb1⟩
  have K1 := K0.call hb1
  obtain ⟨cS, fS, zS⟩ := And.intro K1.1.cell (And.intro K1.1.frozen K1.1.lt)
  go_wp2_with fail
  (with_reducible refine (AA.out _ (T.below K1.below)).mono ?_)
  rintro e w2 ⟨rfl, hb2⟩
  have K2 := K1.call hb2
  clear cS fS zS
  go_wp2_with fail
  (with_reducible refine (CO.out _ (T.below K2.below)).mono ?_)
  rintro e w' ⟨rfl, rfl⟩
  go_wp2_with fail
  (with_reducible refine (SY.out _ (T.below K2.below)).mono ?_)
  rintro e w' ⟨rfl, rfl⟩
  go_wp2_with fail
  first
    | go_region_held3 (fun w' => ∀ i, w'.cell? ⟨w.heap.size, i, none⟩ = (#[.int .i64 s.sec, .int .i64 s.dir, .int .i64 s.since, .int .i64 s.span, .int .i64 s.bad, .int .i64 s.jump, .bool s.st] : Array Value)[i]?)
      (first
        | exact K2.1.cell
        | exact K3.1.cell
        | exact K4.1.cell
        | exact K5.1.cell
        | exact K6.1.cell)
      (first
        | (go_at_call 22; (with_reducible refine (RA.out _).mono ?_); rintro e w3 ⟨rfl, hb3⟩; have K3 := K2.drew.call hb3)
        | (go_at_call 23; (with_reducible refine (PA.out _).mono ?_); rintro e w4 ⟨rfl, hb4⟩; have K4 := K3.call hb4)
        | (go_at_call 24; (with_reducible refine (PR.out _).mono ?_); rintro e w5 ⟨rfl, hb5⟩; have K5 := K4.call hb5)
        | (go_at_call 25; (with_reducible refine (NO.out _).mono ?_); rintro e w6 ⟨rfl, hb6⟩; have K6 := K5.call hb6))
    | fail "held3"
  go_wp2_with fail
  go_ret
  exact ⟨ret_bool (by simp), K6.below⟩
end Go.Proofs.YtehkmnkbmhldgaaDoor
