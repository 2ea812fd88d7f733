/- The walks of layer 29's speed (the program) and next (the reference): both return spd, for a configuration of the form. -/
import Derived.Test.YtckhlcifpeocdaaLeafs
namespace Go.Proofs.Ytckhlcifpeocdaa
open Go.RowKit

theorem quiet_more {P : Program} {f : FuncId} {args : Array Value} {w : World} {a n : Nat} {v : Value}
    (h : Calls P f args (w.drewN (a + n)) fun e w' => e = .returned v ∧ w.drewN (a + n) = w') : Calls P f args (w.drewN (a + n)) fun e w'' => e = .returned v ∧ ∃ m, w'' = w.drewN (a + m) :=
  h.mono fun _ _ ⟨he, hm⟩ => ⟨he, n, hm.symm⟩
theorem within_b {n lo hi : Int} {b : Bool} (h : Hid (decide (lo ≤ n ∧ n ≤ hi) = b)) (w : World) : Calls Try.prog 32 #[.int .i64 n, .int .i64 lo, .int .i64 hi] w fun e w' => e = .returned (.bool b) ∧ w = w' := by
  have h := h.out
  cases b
  · exact within_no n lo hi w (by simp at h; omega)
  · exact within_yes n lo hi w (by simp at h; omega) (by simp at h; omega)
theorem rwithin_b {n lo hi : Int} {b : Bool} (h : Hid (decide (lo ≤ n ∧ n ≤ hi) = b)) (w : World) : Calls Try.prog 33 #[.int .i64 n, .int .i64 lo, .int .i64 hi] w fun e w' => e = .returned (.bool b) ∧ w = w' := by
  have h := h.out
  cases b
  · exact rwithin_no n lo hi w (by simp at h; omega)
  · exact rwithin_yes n lo hi w (by simp at h; omega) (by simp at h; omega)

/-- What the walk's numbers come to. -/
theorem parts {G D R v net u : Int} (h : okC G D R) (hv : -1073741824 ≤ v) (hv2 : v ≤ 1073741824) (hn : -33554432 ≤ net) (hn2 : net ≤ 33554432) (hu : u = 1 ∨ u = -1) :
    ∃ P p t q : Int, (2 : Int) ^ D.toNat = P ∧ 1 ≤ P ∧ P ≤ 16777216 ∧ (net - u * R) * G = p ∧ -100000000000000 ≤ p ∧ p ≤ 100000000000000 ∧ p.tdiv 65536 = t ∧ -2000000000 ≤ t ∧ t ≤ 2000000000 ∧ v.tdiv P = q ∧ (0 ≤ v → 0 ≤ q ∧ q ≤ v) ∧ (v ≤ 0 → v ≤ q ∧ q ≤ 0) ∧ acc G R u net = t ∧ (0 < D → dmp D v = q) := by
  obtain ⟨g1, g2, g3, g4, g5, g6⟩ := h
  have hP := pow_pos' D
  have hP2 : (2 : Int) ^ D.toNat ≤ 2 ^ 24 := by
    have : (2 : Nat) ^ D.toNat ≤ 2 ^ 24 := Nat.pow_le_pow_right (by decide) (by omega)
    have e : ((2 ^ D.toNat : Nat) : Int) = (2 : Int) ^ D.toNat := by simp
    omega
  have hm := mul_le (a := net - u * R) (A := 50331648) (G := G) (B := 1048576) (by rcases hu with rfl | rfl <;> omega) (by rcases hu with rfl | rfl <;> omega) g1 g2 (by decide)
  have ht := tspec ((net - u * R) * G) 65536 (by decide)
  refine ⟨_, _, _, _, rfl, hP, by omega, rfl, by omega, by omega, rfl, by omega, by omega, rfl, fun h => tdiv_le hP h, fun h => ?_, rfl, fun h => by unfold dmp; rw [if_pos h]⟩
  have := tdiv_le (v := -v) hP (by omega)
  rw [Int.neg_tdiv] at this
  omega

theorem spd_one {G D R v net : Int} (hv : ¬ v = 0) (h1 : -R ≤ net ∧ net ≤ R) (h2 : sgn (outS G D R v net) = -sgn v) : spd G D R v net = 0 := by
  unfold spd; rw [if_neg (by omega), if_pos ⟨h1, h2⟩]
theorem spd_two {G D R v net : Int} (h1 : ¬ (v = 0 ∧ -R ≤ net ∧ net ≤ R)) (h2 : ¬ ((-R ≤ net ∧ net ≤ R) ∧ sgn (outS G D R v net) = -sgn v)) : spd G D R v net = max (-1073741824) (min (outS G D R v net) 1073741824) := by
  unfold spd; rw [if_neg h1, if_neg h2]
theorem spd_zero {G D R net : Int} (h1 : -R ≤ net ∧ net ≤ R) : spd G D R 0 net = 0 := by
  unfold spd; rw [if_pos ⟨rfl, h1⟩]
theorem ret_of {k : IntKind} {a b : Int} (h : b = a) : Ending.returned (.int k a) = .returned (.int k b) := by rw [h]


set_option maxHeartbeats 8000000 in
theorem f35_pos {G D R v net : Int} (h : okC G D R) (hv : 0 < v) (hv2 : v ≤ 1073741824) (hn : -33554432 ≤ net) (hn2 : net ≤ 33554432) (w : World) :
    Calls Try.prog 35 #[.agg #[.int .i64 G, .int .i64 D, .int .i64 R], .int .i64 v, .int .i64 net] w fun e w' => e = .returned (.int .i64 (spd G D R v net)) ∧ Below w.heap.size w w' := by
  obtain ⟨P, p, t, q, hP, p1, p2, hp, p3, p4, ht, p5, p6, hq, p7, p8, ha, hd⟩ := parts (v := v) (net := net) (u := 1) h (by omega) (by omega) hn hn2 (by omega)
  obtain ⟨g1, g2, g3, g4, g5, g6⟩ := h
  have hs : sgn v = 1 := sgn_pos hv
  obtain ⟨b, hb0⟩ : ∃ b, decide (-R ≤ net ∧ net ≤ R) = b := ⟨_, rfl⟩
  have hb := Lib.hid hb0
  have hw : way v net = 1 := by unfold way; rw [if_neg (by omega), hs]
  have hqb : (0 ≤ v → 0 ≤ q ∧ q ≤ v) ∧ (v ≤ 0 → v ≤ q ∧ q ≤ 0) := ⟨p7, p8⟩
  have hpe : (net - R) * G = p := by rw [← hp]; simp
  have hqe : v / P = q := by rw [← hq, Int.tdiv_eq_ediv_of_nonneg (by omega)]
  have hz : (v == 0) = false := by simp; omega
  have hD2 : 0 < D ∨ D = 0 := by omega
  have gen : ∀ o, outS G D R v net = o → Hid (sgn o = -1 → decide (-R ≤ net ∧ net ≤ R) = true → spd G D R v net = 0) ∧ Hid (¬ (sgn o = -1 ∧ decide (-R ≤ net ∧ net ≤ R) = true) → spd G D R v net = max (-1073741824) (min o 1073741824)) := fun o ho =>
    ⟨Lib.hid (fun h1 h2 => spd_one (by omega) (by simpa using h2) (by simp [ho, hs, h1])), Lib.hid (fun h1 => by
      rw [← ho]; exact spd_two (by omega) (fun h2 => h1 ⟨by rw [← ho, h2.2, hs]; first | done | rfl, by simpa using h2.1⟩))⟩
  obtain ⟨o, hoe, ob, hR⟩ : ∃ o, (if 0 < D then v - q + t else v + t) = o ∧ (-4000000000 ≤ o ∧ o ≤ 4000000000) ∧ outS G D R v net = o := by
    refine ⟨_, rfl, by split <;> omega, ?_⟩
    unfold outS
    rw [hw, ha]
    by_cases hD : 0 < D
    · rw [hd hD, if_pos hD]
    · rw [if_neg hD]; unfold dmp; rw [if_neg hD]; omega
  obtain ⟨R1, R2⟩ := gen o hR
  clear gen hR hp p7 p8 hq ha hd hw hb0
  rcases hD2 with hD | rfl
  · rw [if_pos hD] at hoe
    cases b
    · have R2 := Lib.hid (R2.out (fun h1 => by have := hb.out; rw [this] at h1; cases h1.2))
      go_enter Try.func35, Try.ntmps35
      go_wp2_with (first
              | (go_at_call 32; refine (within_b hb _).mono ?_; rintro e w' ⟨rfl, rfl⟩)
              | (go_at_call 39; refine (sign_any _ _).mono ?_; rintro e w' ⟨rfl, rfl⟩)
              | (go_at_call 34; refine (clip_any _ _ _ (by omega) _).mono ?_; rintro e w' ⟨rfl, rfl⟩))
      go_ret
      exact ⟨ret_of R2.out, by first | exact below_box (Below.refl _ _) _ | exact below_drewN (below_box (Below.refl _ _) _) _⟩
    · by_cases hop : sgn o = -1
      · have R1 := Lib.hid (R1.out hop hb.out)
        have hx : (sgn o == -1) = true := by simp [hop]
        clear hop R2
        go_enter Try.func35, Try.ntmps35
        go_wp2_with (first
                | (go_at_call 32; refine (within_b hb _).mono ?_; rintro e w' ⟨rfl, rfl⟩)
                | (go_at_call 39; refine (sign_any _ _).mono ?_; rintro e w' ⟨rfl, rfl⟩)
                | (go_at_call 34; refine (clip_any _ _ _ (by omega) _).mono ?_; rintro e w' ⟨rfl, rfl⟩))
        go_ret
        exact ⟨ret_of R1.out, by first | exact below_box (Below.refl _ _) _ | exact below_drewN (below_box (Below.refl _ _) _) _⟩
      · have R2 := Lib.hid (R2.out (fun h1 => hop h1.1))
        have hx : (sgn o == -1) = false := by simp [hop]
        clear hop R1
        go_enter Try.func35, Try.ntmps35
        go_wp2_with (first
                | (go_at_call 32; refine (within_b hb _).mono ?_; rintro e w' ⟨rfl, rfl⟩)
                | (go_at_call 39; refine (sign_any _ _).mono ?_; rintro e w' ⟨rfl, rfl⟩)
                | (go_at_call 34; refine (clip_any _ _ _ (by omega) _).mono ?_; rintro e w' ⟨rfl, rfl⟩))
        go_ret
        exact ⟨ret_of R2.out, by first | exact below_box (Below.refl _ _) _ | exact below_drewN (below_box (Below.refl _ _) _) _⟩
  · rw [if_neg (by omega)] at hoe
    cases b
    · have R2 := Lib.hid (R2.out (fun h1 => by have := hb.out; rw [this] at h1; cases h1.2))
      go_enter Try.func35, Try.ntmps35
      go_wp2_with (first
              | (go_at_call 32; refine (within_b hb _).mono ?_; rintro e w' ⟨rfl, rfl⟩)
              | (go_at_call 39; refine (sign_any _ _).mono ?_; rintro e w' ⟨rfl, rfl⟩)
              | (go_at_call 34; refine (clip_any _ _ _ (by omega) _).mono ?_; rintro e w' ⟨rfl, rfl⟩))
      go_ret
      exact ⟨ret_of R2.out, by first | exact below_box (Below.refl _ _) _ | exact below_drewN (below_box (Below.refl _ _) _) _⟩
    · by_cases hop : sgn o = -1
      · have R1 := Lib.hid (R1.out hop hb.out)
        have hx : (sgn o == -1) = true := by simp [hop]
        clear hop R2
        go_enter Try.func35, Try.ntmps35
        go_wp2_with (first
                | (go_at_call 32; refine (within_b hb _).mono ?_; rintro e w' ⟨rfl, rfl⟩)
                | (go_at_call 39; refine (sign_any _ _).mono ?_; rintro e w' ⟨rfl, rfl⟩)
                | (go_at_call 34; refine (clip_any _ _ _ (by omega) _).mono ?_; rintro e w' ⟨rfl, rfl⟩))
        go_ret
        exact ⟨ret_of R1.out, by first | exact below_box (Below.refl _ _) _ | exact below_drewN (below_box (Below.refl _ _) _) _⟩
      · have R2 := Lib.hid (R2.out (fun h1 => hop h1.1))
        have hx : (sgn o == -1) = false := by simp [hop]
        clear hop R1
        go_enter Try.func35, Try.ntmps35
        go_wp2_with (first
                | (go_at_call 32; refine (within_b hb _).mono ?_; rintro e w' ⟨rfl, rfl⟩)
                | (go_at_call 39; refine (sign_any _ _).mono ?_; rintro e w' ⟨rfl, rfl⟩)
                | (go_at_call 34; refine (clip_any _ _ _ (by omega) _).mono ?_; rintro e w' ⟨rfl, rfl⟩))
        go_ret
        exact ⟨ret_of R2.out, by first | exact below_box (Below.refl _ _) _ | exact below_drewN (below_box (Below.refl _ _) _) _⟩

set_option maxHeartbeats 8000000 in
theorem f35_neg {G D R v net : Int} (h : okC G D R) (hv : v < 0) (hv2 : -1073741824 ≤ v) (hn : -33554432 ≤ net) (hn2 : net ≤ 33554432) (w : World) :
    Calls Try.prog 35 #[.agg #[.int .i64 G, .int .i64 D, .int .i64 R], .int .i64 v, .int .i64 net] w fun e w' => e = .returned (.int .i64 (spd G D R v net)) ∧ Below w.heap.size w w' := by
  obtain ⟨P, p, t, q, hP, p1, p2, hp, p3, p4, ht, p5, p6, hq, p7, p8, ha, hd⟩ := parts (v := v) (net := net) (u := (-1)) h (by omega) (by omega) hn hn2 (by omega)
  obtain ⟨g1, g2, g3, g4, g5, g6⟩ := h
  have hs : sgn v = -1 := sgn_neg hv
  obtain ⟨b, hb0⟩ : ∃ b, decide (-R ≤ net ∧ net ≤ R) = b := ⟨_, rfl⟩
  have hb := Lib.hid hb0
  have hw : way v net = (-1) := by unfold way; rw [if_neg (by omega), hs]
  have hqb : (0 ≤ v → 0 ≤ q ∧ q ≤ v) ∧ (v ≤ 0 → v ≤ q ∧ q ≤ 0) := ⟨p7, p8⟩
  have hpe : (net + R) * G = p := by rw [← hp]; simp
  have hqe : v.tdiv P = q := hq
  have hz : (v == 0) = false := by simp; omega
  have hD2 : 0 < D ∨ D = 0 := by omega
  have gen : ∀ o, outS G D R v net = o → Hid (sgn o = 1 → decide (-R ≤ net ∧ net ≤ R) = true → spd G D R v net = 0) ∧ Hid (¬ (sgn o = 1 ∧ decide (-R ≤ net ∧ net ≤ R) = true) → spd G D R v net = max (-1073741824) (min o 1073741824)) := fun o ho =>
    ⟨Lib.hid (fun h1 h2 => spd_one (by omega) (by simpa using h2) (by simp [ho, hs, h1])), Lib.hid (fun h1 => by
      rw [← ho]; exact spd_two (by omega) (fun h2 => h1 ⟨by rw [← ho, h2.2, hs]; first | done | rfl, by simpa using h2.1⟩))⟩
  obtain ⟨o, hoe, ob, hR⟩ : ∃ o, (if 0 < D then v - q + t else v + t) = o ∧ (-4000000000 ≤ o ∧ o ≤ 4000000000) ∧ outS G D R v net = o := by
    refine ⟨_, rfl, by split <;> omega, ?_⟩
    unfold outS
    rw [hw, ha]
    by_cases hD : 0 < D
    · rw [hd hD, if_pos hD]
    · rw [if_neg hD]; unfold dmp; rw [if_neg hD]; omega
  obtain ⟨R1, R2⟩ := gen o hR
  clear gen hR hp p7 p8 hq ha hd hw hb0
  rcases hD2 with hD | rfl
  · rw [if_pos hD] at hoe
    cases b
    · have R2 := Lib.hid (R2.out (fun h1 => by have := hb.out; rw [this] at h1; cases h1.2))
      go_enter Try.func35, Try.ntmps35
      go_wp2_with (first
              | (go_at_call 32; refine (within_b hb _).mono ?_; rintro e w' ⟨rfl, rfl⟩)
              | (go_at_call 39; refine (sign_any _ _).mono ?_; rintro e w' ⟨rfl, rfl⟩)
              | (go_at_call 34; refine (clip_any _ _ _ (by omega) _).mono ?_; rintro e w' ⟨rfl, rfl⟩))
      go_ret
      exact ⟨ret_of R2.out, by first | exact below_box (Below.refl _ _) _ | exact below_drewN (below_box (Below.refl _ _) _) _⟩
    · by_cases hop : sgn o = 1
      · have R1 := Lib.hid (R1.out hop hb.out)
        have hx : (sgn o == 1) = true := by simp [hop]
        clear hop R2
        go_enter Try.func35, Try.ntmps35
        go_wp2_with (first
                | (go_at_call 32; refine (within_b hb _).mono ?_; rintro e w' ⟨rfl, rfl⟩)
                | (go_at_call 39; refine (sign_any _ _).mono ?_; rintro e w' ⟨rfl, rfl⟩)
                | (go_at_call 34; refine (clip_any _ _ _ (by omega) _).mono ?_; rintro e w' ⟨rfl, rfl⟩))
        go_ret
        exact ⟨ret_of R1.out, by first | exact below_box (Below.refl _ _) _ | exact below_drewN (below_box (Below.refl _ _) _) _⟩
      · have R2 := Lib.hid (R2.out (fun h1 => hop h1.1))
        have hx : (sgn o == 1) = false := by simp [hop]
        clear hop R1
        go_enter Try.func35, Try.ntmps35
        go_wp2_with (first
                | (go_at_call 32; refine (within_b hb _).mono ?_; rintro e w' ⟨rfl, rfl⟩)
                | (go_at_call 39; refine (sign_any _ _).mono ?_; rintro e w' ⟨rfl, rfl⟩)
                | (go_at_call 34; refine (clip_any _ _ _ (by omega) _).mono ?_; rintro e w' ⟨rfl, rfl⟩))
        go_ret
        exact ⟨ret_of R2.out, by first | exact below_box (Below.refl _ _) _ | exact below_drewN (below_box (Below.refl _ _) _) _⟩
  · rw [if_neg (by omega)] at hoe
    cases b
    · have R2 := Lib.hid (R2.out (fun h1 => by have := hb.out; rw [this] at h1; cases h1.2))
      go_enter Try.func35, Try.ntmps35
      go_wp2_with (first
              | (go_at_call 32; refine (within_b hb _).mono ?_; rintro e w' ⟨rfl, rfl⟩)
              | (go_at_call 39; refine (sign_any _ _).mono ?_; rintro e w' ⟨rfl, rfl⟩)
              | (go_at_call 34; refine (clip_any _ _ _ (by omega) _).mono ?_; rintro e w' ⟨rfl, rfl⟩))
      go_ret
      exact ⟨ret_of R2.out, by first | exact below_box (Below.refl _ _) _ | exact below_drewN (below_box (Below.refl _ _) _) _⟩
    · by_cases hop : sgn o = 1
      · have R1 := Lib.hid (R1.out hop hb.out)
        have hx : (sgn o == 1) = true := by simp [hop]
        clear hop R2
        go_enter Try.func35, Try.ntmps35
        go_wp2_with (first
                | (go_at_call 32; refine (within_b hb _).mono ?_; rintro e w' ⟨rfl, rfl⟩)
                | (go_at_call 39; refine (sign_any _ _).mono ?_; rintro e w' ⟨rfl, rfl⟩)
                | (go_at_call 34; refine (clip_any _ _ _ (by omega) _).mono ?_; rintro e w' ⟨rfl, rfl⟩))
        go_ret
        exact ⟨ret_of R1.out, by first | exact below_box (Below.refl _ _) _ | exact below_drewN (below_box (Below.refl _ _) _) _⟩
      · have R2 := Lib.hid (R2.out (fun h1 => hop h1.1))
        have hx : (sgn o == 1) = false := by simp [hop]
        clear hop R1
        go_enter Try.func35, Try.ntmps35
        go_wp2_with (first
                | (go_at_call 32; refine (within_b hb _).mono ?_; rintro e w' ⟨rfl, rfl⟩)
                | (go_at_call 39; refine (sign_any _ _).mono ?_; rintro e w' ⟨rfl, rfl⟩)
                | (go_at_call 34; refine (clip_any _ _ _ (by omega) _).mono ?_; rintro e w' ⟨rfl, rfl⟩))
        go_ret
        exact ⟨ret_of R2.out, by first | exact below_box (Below.refl _ _) _ | exact below_drewN (below_box (Below.refl _ _) _) _⟩

set_option maxHeartbeats 4000000 in
theorem f35_zp {G D R net : Int} (h : okC G D R) (hv : R < net) (hn : -33554432 ≤ net) (hn2 : net ≤ 33554432) (w : World) :
    Calls Try.prog 35 #[.agg #[.int .i64 G, .int .i64 D, .int .i64 R], .int .i64 0, .int .i64 net] w fun e w' => e = .returned (.int .i64 (spd G D R 0 net)) ∧ Below w.heap.size w w' := by
  obtain ⟨P, p, t, q, hP, p1, p2, hp, p3, p4, ht, p5, p6, hq, p7, p8, ha, hd⟩ := parts (v := 0) (net := net) (u := 1) h (by omega) (by omega) hn hn2 (by omega)
  obtain ⟨g1, g2, g3, g4, g5, g6⟩ := h
  have hs : sgn net = 1 := sgn_pos (by omega)
  have hb : Hid (decide (-R ≤ net ∧ net ≤ R) = false) := Lib.hid (by simp; omega)
  have hpe : (net - R) * G = p := by rw [← hp]; simp
  have ho : outS G D R 0 net = t := by rw [out_zero, hs, ha]
  have R2 := Lib.hid (spd_two (G := G) (D := D) (R := R) (v := 0) (net := net) (by omega) (by omega))
  rw [ho] at R2
  clear hp p7 p8 hq ha hd ho
  have hz0 := sgn_zero
  by_cases hD : 0 < D
  all_goals
    go_enter Try.func35, Try.ntmps35
    go_wp2_with (first
            | (go_at_call 32; refine (within_b hb _).mono ?_; rintro e w' ⟨rfl, rfl⟩)
            | (go_at_call 39; refine (sign_any _ _).mono ?_; rintro e w' ⟨rfl, rfl⟩)
            | (go_at_call 34; refine (clip_any _ _ _ (by omega) _).mono ?_; rintro e w' ⟨rfl, rfl⟩))
    go_ret
    exact ⟨ret_of R2.out, by first | exact below_box (Below.refl _ _) _ | exact below_drewN (below_box (Below.refl _ _) _) _⟩

set_option maxHeartbeats 4000000 in
theorem f35_zn {G D R net : Int} (h : okC G D R) (hv : net < -R) (hn : -33554432 ≤ net) (hn2 : net ≤ 33554432) (w : World) :
    Calls Try.prog 35 #[.agg #[.int .i64 G, .int .i64 D, .int .i64 R], .int .i64 0, .int .i64 net] w fun e w' => e = .returned (.int .i64 (spd G D R 0 net)) ∧ Below w.heap.size w w' := by
  obtain ⟨P, p, t, q, hP, p1, p2, hp, p3, p4, ht, p5, p6, hq, p7, p8, ha, hd⟩ := parts (v := 0) (net := net) (u := (-1)) h (by omega) (by omega) hn hn2 (by omega)
  obtain ⟨g1, g2, g3, g4, g5, g6⟩ := h
  have hs : sgn net = -1 := sgn_neg (by omega)
  have hb : Hid (decide (-R ≤ net ∧ net ≤ R) = false) := Lib.hid (by simp; omega)
  have hpe : (net + R) * G = p := by rw [← hp]; simp
  have ho : outS G D R 0 net = t := by rw [out_zero, hs, ha]
  have R2 := Lib.hid (spd_two (G := G) (D := D) (R := R) (v := 0) (net := net) (by omega) (by omega))
  rw [ho] at R2
  clear hp p7 p8 hq ha hd ho
  have hz0 := sgn_zero
  by_cases hD : 0 < D
  all_goals
    go_enter Try.func35, Try.ntmps35
    go_wp2_with (first
            | (go_at_call 32; refine (within_b hb _).mono ?_; rintro e w' ⟨rfl, rfl⟩)
            | (go_at_call 39; refine (sign_any _ _).mono ?_; rintro e w' ⟨rfl, rfl⟩)
            | (go_at_call 34; refine (clip_any _ _ _ (by omega) _).mono ?_; rintro e w' ⟨rfl, rfl⟩))
    go_ret
    exact ⟨ret_of R2.out, by first | exact below_box (Below.refl _ _) _ | exact below_drewN (below_box (Below.refl _ _) _) _⟩

set_option maxHeartbeats 1000000 in
theorem f35_z {G D R net : Int} (h : -R ≤ net ∧ net ≤ R) (hR : 0 ≤ R ∧ R ≤ 16777216) (w : World) :
    Calls Try.prog 35 #[.agg #[.int .i64 G, .int .i64 D, .int .i64 R], .int .i64 0, .int .i64 net] w fun e w' => e = .returned (.int .i64 (spd G D R 0 net)) ∧ Below w.heap.size w w' := by
  rw [spd_zero h]
  have hb : Hid (decide (-R ≤ net ∧ net ≤ R) = true) := Lib.hid (by simpa using h)
  go_enter Try.func35, Try.ntmps35
  go_wp2_with (first
        | (go_at_call 32; refine (within_b hb _).mono ?_; rintro e w' ⟨rfl, rfl⟩)
        | (go_at_call 39; refine (sign_any _ _).mono ?_; rintro e w' ⟨rfl, rfl⟩)
        | (go_at_call 34; refine (clip_any _ _ _ (by omega) _).mono ?_; rintro e w' ⟨rfl, rfl⟩))
  go_ret
  exact ⟨rfl, below_box (Below.refl _ _) _⟩
theorem speed_any {G D R v net : Int} (h : okC G D R) (hv : -1073741824 ≤ v) (hv2 : v ≤ 1073741824) (hn : -33554432 ≤ net) (hn2 : net ≤ 33554432) (w : World) :
    Calls Try.prog 35 #[.agg #[.int .i64 G, .int .i64 D, .int .i64 R], .int .i64 v, .int .i64 net] w fun e w' => e = .returned (.int .i64 (spd G D R v net)) ∧ Below w.heap.size w w' := by
  by_cases h1 : 0 < v
  · exact f35_pos h h1 hv2 hn hn2 w
  · by_cases h2 : v < 0
    · exact f35_neg h h2 hv hn hn2 w
    · obtain rfl : v = 0 := by omega
      by_cases h3 : R < net
      · exact f35_zp h h3 hn hn2 w
      · by_cases h4 : net < -R
        · exact f35_zn h h4 hn hn2 w
        · exact f35_z ⟨by omega, by omega⟩ ⟨h.2.2.2.2.1, h.2.2.2.2.2⟩ w

set_option maxHeartbeats 8000000 in
theorem f36_pos {G D R v net : Int} (h : okC G D R) (hv : 0 < v) (hv2 : v ≤ 1073741824) (hn : -33554432 ≤ net) (hn2 : net ≤ 33554432) (w : World) :
    Calls Try.prog 36 #[.agg #[.int .i64 G, .int .i64 D, .int .i64 R], .int .i64 v, .int .i64 net] w fun e w' => e = .returned (.int .i64 (spd G D R v net)) ∧ Below w.heap.size w w' := by
  obtain ⟨P, p, t, q, hP, p1, p2, hp, p3, p4, ht, p5, p6, hq, p7, p8, ha, hd⟩ := parts (v := v) (net := net) (u := 1) h (by omega) (by omega) hn hn2 (by omega)
  obtain ⟨g1, g2, g3, g4, g5, g6⟩ := h
  have hs : sgn v = 1 := sgn_pos hv
  obtain ⟨b, hb0⟩ : ∃ b, decide (-R ≤ net ∧ net ≤ R) = b := ⟨_, rfl⟩
  have hb := Lib.hid hb0
  have hw : way v net = 1 := by unfold way; rw [if_neg (by omega), hs]
  have hqb : (0 ≤ v → 0 ≤ q ∧ q ≤ v) ∧ (v ≤ 0 → v ≤ q ∧ q ≤ 0) := ⟨p7, p8⟩
  have hpe : (net - R) * G = p := by rw [← hp]; simp
  have hqe : v / P = q := by rw [← hq, Int.tdiv_eq_ediv_of_nonneg (by omega)]
  have hz : (v == 0) = false := by simp; omega
  have hD2 : 0 < D ∨ D = 0 := by omega
  have gen : ∀ o, outS G D R v net = o → Hid (sgn o = -1 → decide (-R ≤ net ∧ net ≤ R) = true → spd G D R v net = 0) ∧ Hid (¬ (sgn o = -1 ∧ decide (-R ≤ net ∧ net ≤ R) = true) → spd G D R v net = max (-1073741824) (min o 1073741824)) := fun o ho =>
    ⟨Lib.hid (fun h1 h2 => spd_one (by omega) (by simpa using h2) (by simp [ho, hs, h1])), Lib.hid (fun h1 => by
      rw [← ho]; exact spd_two (by omega) (fun h2 => h1 ⟨by rw [← ho, h2.2, hs]; first | done | rfl, by simpa using h2.1⟩))⟩
  obtain ⟨o, hoe, ob, hR⟩ : ∃ o, (if 0 < D then v - q + t else v + t) = o ∧ (-4000000000 ≤ o ∧ o ≤ 4000000000) ∧ outS G D R v net = o := by
    refine ⟨_, rfl, by split <;> omega, ?_⟩
    unfold outS
    rw [hw, ha]
    by_cases hD : 0 < D
    · rw [hd hD, if_pos hD]
    · rw [if_neg hD]; unfold dmp; rw [if_neg hD]; omega
  obtain ⟨R1, R2⟩ := gen o hR
  clear gen hR hp p7 p8 hq ha hd hw hb0
  rcases hD2 with hD | rfl
  · rw [if_pos hD] at hoe
    cases b
    · have R2 := Lib.hid (R2.out (fun h1 => by have := hb.out; rw [this] at h1; cases h1.2))
      go_enter Try.func36, Try.ntmps36
      go_wp2_with (first
              | (go_at_call 33; refine (rwithin_b hb _).mono ?_; rintro e w' ⟨rfl, rfl⟩)
              | (go_at_call 40; refine (rsign_any _ _).mono ?_; rintro e w' ⟨rfl, rfl⟩)
              | (go_at_call 37; refine (rclip_any _ _ _ _).mono ?_; rintro e w' ⟨rfl, rfl⟩))
      go_quiet ((go_at_call 40; first | exact quiet_more (rsign_any _ _) | exact Calls.quiet_of_same ((rsign_any _ _).mono (by rintro e w' ⟨rfl, rfl⟩; exact ⟨rfl, rfl⟩))))
      go_wp2_with (first
              | (go_at_call 33; refine (rwithin_b hb _).mono ?_; rintro e w' ⟨rfl, rfl⟩)
              | (go_at_call 40; refine (rsign_any _ _).mono ?_; rintro e w' ⟨rfl, rfl⟩)
              | (go_at_call 37; refine (rclip_any _ _ _ _).mono ?_; rintro e w' ⟨rfl, rfl⟩))
      go_ret
      exact ⟨ret_of R2.out, by first | exact below_box (Below.refl _ _) _ | exact below_drewN (below_box (Below.refl _ _) _) _⟩
    · by_cases hop : sgn o = -1
      · have R1 := Lib.hid (R1.out hop hb.out)
        have hx : (sgn o == -1) = true := by simp [hop]
        clear hop R2
        go_enter Try.func36, Try.ntmps36
        go_wp2_with (first
                | (go_at_call 33; refine (rwithin_b hb _).mono ?_; rintro e w' ⟨rfl, rfl⟩)
                | (go_at_call 40; refine (rsign_any _ _).mono ?_; rintro e w' ⟨rfl, rfl⟩)
                | (go_at_call 37; refine (rclip_any _ _ _ _).mono ?_; rintro e w' ⟨rfl, rfl⟩))
        go_quiet ((go_at_call 40; first | exact quiet_more (rsign_any _ _) | exact Calls.quiet_of_same ((rsign_any _ _).mono (by rintro e w' ⟨rfl, rfl⟩; exact ⟨rfl, rfl⟩))))
        go_wp2_with (first
                | (go_at_call 33; refine (rwithin_b hb _).mono ?_; rintro e w' ⟨rfl, rfl⟩)
                | (go_at_call 40; refine (rsign_any _ _).mono ?_; rintro e w' ⟨rfl, rfl⟩)
                | (go_at_call 37; refine (rclip_any _ _ _ _).mono ?_; rintro e w' ⟨rfl, rfl⟩))
        go_ret
        exact ⟨ret_of R1.out, by first | exact below_box (Below.refl _ _) _ | exact below_drewN (below_box (Below.refl _ _) _) _⟩
      · have R2 := Lib.hid (R2.out (fun h1 => hop h1.1))
        have hx : (sgn o == -1) = false := by simp [hop]
        clear hop R1
        go_enter Try.func36, Try.ntmps36
        go_wp2_with (first
                | (go_at_call 33; refine (rwithin_b hb _).mono ?_; rintro e w' ⟨rfl, rfl⟩)
                | (go_at_call 40; refine (rsign_any _ _).mono ?_; rintro e w' ⟨rfl, rfl⟩)
                | (go_at_call 37; refine (rclip_any _ _ _ _).mono ?_; rintro e w' ⟨rfl, rfl⟩))
        go_quiet ((go_at_call 40; first | exact quiet_more (rsign_any _ _) | exact Calls.quiet_of_same ((rsign_any _ _).mono (by rintro e w' ⟨rfl, rfl⟩; exact ⟨rfl, rfl⟩))))
        go_wp2_with (first
                | (go_at_call 33; refine (rwithin_b hb _).mono ?_; rintro e w' ⟨rfl, rfl⟩)
                | (go_at_call 40; refine (rsign_any _ _).mono ?_; rintro e w' ⟨rfl, rfl⟩)
                | (go_at_call 37; refine (rclip_any _ _ _ _).mono ?_; rintro e w' ⟨rfl, rfl⟩))
        go_ret
        exact ⟨ret_of R2.out, by first | exact below_box (Below.refl _ _) _ | exact below_drewN (below_box (Below.refl _ _) _) _⟩
  · rw [if_neg (by omega)] at hoe
    cases b
    · have R2 := Lib.hid (R2.out (fun h1 => by have := hb.out; rw [this] at h1; cases h1.2))
      go_enter Try.func36, Try.ntmps36
      go_wp2_with (first
              | (go_at_call 33; refine (rwithin_b hb _).mono ?_; rintro e w' ⟨rfl, rfl⟩)
              | (go_at_call 40; refine (rsign_any _ _).mono ?_; rintro e w' ⟨rfl, rfl⟩)
              | (go_at_call 37; refine (rclip_any _ _ _ _).mono ?_; rintro e w' ⟨rfl, rfl⟩))
      go_quiet ((go_at_call 40; first | exact quiet_more (rsign_any _ _) | exact Calls.quiet_of_same ((rsign_any _ _).mono (by rintro e w' ⟨rfl, rfl⟩; exact ⟨rfl, rfl⟩))))
      go_wp2_with (first
              | (go_at_call 33; refine (rwithin_b hb _).mono ?_; rintro e w' ⟨rfl, rfl⟩)
              | (go_at_call 40; refine (rsign_any _ _).mono ?_; rintro e w' ⟨rfl, rfl⟩)
              | (go_at_call 37; refine (rclip_any _ _ _ _).mono ?_; rintro e w' ⟨rfl, rfl⟩))
      go_ret
      exact ⟨ret_of R2.out, by first | exact below_box (Below.refl _ _) _ | exact below_drewN (below_box (Below.refl _ _) _) _⟩
    · by_cases hop : sgn o = -1
      · have R1 := Lib.hid (R1.out hop hb.out)
        have hx : (sgn o == -1) = true := by simp [hop]
        clear hop R2
        go_enter Try.func36, Try.ntmps36
        go_wp2_with (first
                | (go_at_call 33; refine (rwithin_b hb _).mono ?_; rintro e w' ⟨rfl, rfl⟩)
                | (go_at_call 40; refine (rsign_any _ _).mono ?_; rintro e w' ⟨rfl, rfl⟩)
                | (go_at_call 37; refine (rclip_any _ _ _ _).mono ?_; rintro e w' ⟨rfl, rfl⟩))
        go_quiet ((go_at_call 40; first | exact quiet_more (rsign_any _ _) | exact Calls.quiet_of_same ((rsign_any _ _).mono (by rintro e w' ⟨rfl, rfl⟩; exact ⟨rfl, rfl⟩))))
        go_wp2_with (first
                | (go_at_call 33; refine (rwithin_b hb _).mono ?_; rintro e w' ⟨rfl, rfl⟩)
                | (go_at_call 40; refine (rsign_any _ _).mono ?_; rintro e w' ⟨rfl, rfl⟩)
                | (go_at_call 37; refine (rclip_any _ _ _ _).mono ?_; rintro e w' ⟨rfl, rfl⟩))
        go_ret
        exact ⟨ret_of R1.out, by first | exact below_box (Below.refl _ _) _ | exact below_drewN (below_box (Below.refl _ _) _) _⟩
      · have R2 := Lib.hid (R2.out (fun h1 => hop h1.1))
        have hx : (sgn o == -1) = false := by simp [hop]
        clear hop R1
        go_enter Try.func36, Try.ntmps36
        go_wp2_with (first
                | (go_at_call 33; refine (rwithin_b hb _).mono ?_; rintro e w' ⟨rfl, rfl⟩)
                | (go_at_call 40; refine (rsign_any _ _).mono ?_; rintro e w' ⟨rfl, rfl⟩)
                | (go_at_call 37; refine (rclip_any _ _ _ _).mono ?_; rintro e w' ⟨rfl, rfl⟩))
        go_quiet ((go_at_call 40; first | exact quiet_more (rsign_any _ _) | exact Calls.quiet_of_same ((rsign_any _ _).mono (by rintro e w' ⟨rfl, rfl⟩; exact ⟨rfl, rfl⟩))))
        go_wp2_with (first
                | (go_at_call 33; refine (rwithin_b hb _).mono ?_; rintro e w' ⟨rfl, rfl⟩)
                | (go_at_call 40; refine (rsign_any _ _).mono ?_; rintro e w' ⟨rfl, rfl⟩)
                | (go_at_call 37; refine (rclip_any _ _ _ _).mono ?_; rintro e w' ⟨rfl, rfl⟩))
        go_ret
        exact ⟨ret_of R2.out, by first | exact below_box (Below.refl _ _) _ | exact below_drewN (below_box (Below.refl _ _) _) _⟩

set_option maxHeartbeats 8000000 in
theorem f36_neg {G D R v net : Int} (h : okC G D R) (hv : v < 0) (hv2 : -1073741824 ≤ v) (hn : -33554432 ≤ net) (hn2 : net ≤ 33554432) (w : World) :
    Calls Try.prog 36 #[.agg #[.int .i64 G, .int .i64 D, .int .i64 R], .int .i64 v, .int .i64 net] w fun e w' => e = .returned (.int .i64 (spd G D R v net)) ∧ Below w.heap.size w w' := by
  obtain ⟨P, p, t, q, hP, p1, p2, hp, p3, p4, ht, p5, p6, hq, p7, p8, ha, hd⟩ := parts (v := v) (net := net) (u := (-1)) h (by omega) (by omega) hn hn2 (by omega)
  obtain ⟨g1, g2, g3, g4, g5, g6⟩ := h
  have hs : sgn v = -1 := sgn_neg hv
  obtain ⟨b, hb0⟩ : ∃ b, decide (-R ≤ net ∧ net ≤ R) = b := ⟨_, rfl⟩
  have hb := Lib.hid hb0
  have hw : way v net = (-1) := by unfold way; rw [if_neg (by omega), hs]
  have hqb : (0 ≤ v → 0 ≤ q ∧ q ≤ v) ∧ (v ≤ 0 → v ≤ q ∧ q ≤ 0) := ⟨p7, p8⟩
  have hpe : (net + R) * G = p := by rw [← hp]; simp
  have hqe : v.tdiv P = q := hq
  have hz : (v == 0) = false := by simp; omega
  have hD2 : 0 < D ∨ D = 0 := by omega
  have gen : ∀ o, outS G D R v net = o → Hid (sgn o = 1 → decide (-R ≤ net ∧ net ≤ R) = true → spd G D R v net = 0) ∧ Hid (¬ (sgn o = 1 ∧ decide (-R ≤ net ∧ net ≤ R) = true) → spd G D R v net = max (-1073741824) (min o 1073741824)) := fun o ho =>
    ⟨Lib.hid (fun h1 h2 => spd_one (by omega) (by simpa using h2) (by simp [ho, hs, h1])), Lib.hid (fun h1 => by
      rw [← ho]; exact spd_two (by omega) (fun h2 => h1 ⟨by rw [← ho, h2.2, hs]; first | done | rfl, by simpa using h2.1⟩))⟩
  obtain ⟨o, hoe, ob, hR⟩ : ∃ o, (if 0 < D then v - q + t else v + t) = o ∧ (-4000000000 ≤ o ∧ o ≤ 4000000000) ∧ outS G D R v net = o := by
    refine ⟨_, rfl, by split <;> omega, ?_⟩
    unfold outS
    rw [hw, ha]
    by_cases hD : 0 < D
    · rw [hd hD, if_pos hD]
    · rw [if_neg hD]; unfold dmp; rw [if_neg hD]; omega
  obtain ⟨R1, R2⟩ := gen o hR
  clear gen hR hp p7 p8 hq ha hd hw hb0
  rcases hD2 with hD | rfl
  · rw [if_pos hD] at hoe
    cases b
    · have R2 := Lib.hid (R2.out (fun h1 => by have := hb.out; rw [this] at h1; cases h1.2))
      go_enter Try.func36, Try.ntmps36
      go_wp2_with (first
              | (go_at_call 33; refine (rwithin_b hb _).mono ?_; rintro e w' ⟨rfl, rfl⟩)
              | (go_at_call 40; refine (rsign_any _ _).mono ?_; rintro e w' ⟨rfl, rfl⟩)
              | (go_at_call 37; refine (rclip_any _ _ _ _).mono ?_; rintro e w' ⟨rfl, rfl⟩))
      go_quiet ((go_at_call 40; first | exact quiet_more (rsign_any _ _) | exact Calls.quiet_of_same ((rsign_any _ _).mono (by rintro e w' ⟨rfl, rfl⟩; exact ⟨rfl, rfl⟩))))
      go_wp2_with (first
              | (go_at_call 33; refine (rwithin_b hb _).mono ?_; rintro e w' ⟨rfl, rfl⟩)
              | (go_at_call 40; refine (rsign_any _ _).mono ?_; rintro e w' ⟨rfl, rfl⟩)
              | (go_at_call 37; refine (rclip_any _ _ _ _).mono ?_; rintro e w' ⟨rfl, rfl⟩))
      go_ret
      exact ⟨ret_of R2.out, by first | exact below_box (Below.refl _ _) _ | exact below_drewN (below_box (Below.refl _ _) _) _⟩
    · by_cases hop : sgn o = 1
      · have R1 := Lib.hid (R1.out hop hb.out)
        have hx : (sgn o == 1) = true := by simp [hop]
        clear hop R2
        go_enter Try.func36, Try.ntmps36
        go_wp2_with (first
                | (go_at_call 33; refine (rwithin_b hb _).mono ?_; rintro e w' ⟨rfl, rfl⟩)
                | (go_at_call 40; refine (rsign_any _ _).mono ?_; rintro e w' ⟨rfl, rfl⟩)
                | (go_at_call 37; refine (rclip_any _ _ _ _).mono ?_; rintro e w' ⟨rfl, rfl⟩))
        go_quiet ((go_at_call 40; first | exact quiet_more (rsign_any _ _) | exact Calls.quiet_of_same ((rsign_any _ _).mono (by rintro e w' ⟨rfl, rfl⟩; exact ⟨rfl, rfl⟩))))
        go_wp2_with (first
                | (go_at_call 33; refine (rwithin_b hb _).mono ?_; rintro e w' ⟨rfl, rfl⟩)
                | (go_at_call 40; refine (rsign_any _ _).mono ?_; rintro e w' ⟨rfl, rfl⟩)
                | (go_at_call 37; refine (rclip_any _ _ _ _).mono ?_; rintro e w' ⟨rfl, rfl⟩))
        go_ret
        exact ⟨ret_of R1.out, by first | exact below_box (Below.refl _ _) _ | exact below_drewN (below_box (Below.refl _ _) _) _⟩
      · have R2 := Lib.hid (R2.out (fun h1 => hop h1.1))
        have hx : (sgn o == 1) = false := by simp [hop]
        clear hop R1
        go_enter Try.func36, Try.ntmps36
        go_wp2_with (first
                | (go_at_call 33; refine (rwithin_b hb _).mono ?_; rintro e w' ⟨rfl, rfl⟩)
                | (go_at_call 40; refine (rsign_any _ _).mono ?_; rintro e w' ⟨rfl, rfl⟩)
                | (go_at_call 37; refine (rclip_any _ _ _ _).mono ?_; rintro e w' ⟨rfl, rfl⟩))
        go_quiet ((go_at_call 40; first | exact quiet_more (rsign_any _ _) | exact Calls.quiet_of_same ((rsign_any _ _).mono (by rintro e w' ⟨rfl, rfl⟩; exact ⟨rfl, rfl⟩))))
        go_wp2_with (first
                | (go_at_call 33; refine (rwithin_b hb _).mono ?_; rintro e w' ⟨rfl, rfl⟩)
                | (go_at_call 40; refine (rsign_any _ _).mono ?_; rintro e w' ⟨rfl, rfl⟩)
                | (go_at_call 37; refine (rclip_any _ _ _ _).mono ?_; rintro e w' ⟨rfl, rfl⟩))
        go_ret
        exact ⟨ret_of R2.out, by first | exact below_box (Below.refl _ _) _ | exact below_drewN (below_box (Below.refl _ _) _) _⟩
  · rw [if_neg (by omega)] at hoe
    cases b
    · have R2 := Lib.hid (R2.out (fun h1 => by have := hb.out; rw [this] at h1; cases h1.2))
      go_enter Try.func36, Try.ntmps36
      go_wp2_with (first
              | (go_at_call 33; refine (rwithin_b hb _).mono ?_; rintro e w' ⟨rfl, rfl⟩)
              | (go_at_call 40; refine (rsign_any _ _).mono ?_; rintro e w' ⟨rfl, rfl⟩)
              | (go_at_call 37; refine (rclip_any _ _ _ _).mono ?_; rintro e w' ⟨rfl, rfl⟩))
      go_quiet ((go_at_call 40; first | exact quiet_more (rsign_any _ _) | exact Calls.quiet_of_same ((rsign_any _ _).mono (by rintro e w' ⟨rfl, rfl⟩; exact ⟨rfl, rfl⟩))))
      go_wp2_with (first
              | (go_at_call 33; refine (rwithin_b hb _).mono ?_; rintro e w' ⟨rfl, rfl⟩)
              | (go_at_call 40; refine (rsign_any _ _).mono ?_; rintro e w' ⟨rfl, rfl⟩)
              | (go_at_call 37; refine (rclip_any _ _ _ _).mono ?_; rintro e w' ⟨rfl, rfl⟩))
      go_ret
      exact ⟨ret_of R2.out, by first | exact below_box (Below.refl _ _) _ | exact below_drewN (below_box (Below.refl _ _) _) _⟩
    · by_cases hop : sgn o = 1
      · have R1 := Lib.hid (R1.out hop hb.out)
        have hx : (sgn o == 1) = true := by simp [hop]
        clear hop R2
        go_enter Try.func36, Try.ntmps36
        go_wp2_with (first
                | (go_at_call 33; refine (rwithin_b hb _).mono ?_; rintro e w' ⟨rfl, rfl⟩)
                | (go_at_call 40; refine (rsign_any _ _).mono ?_; rintro e w' ⟨rfl, rfl⟩)
                | (go_at_call 37; refine (rclip_any _ _ _ _).mono ?_; rintro e w' ⟨rfl, rfl⟩))
        go_quiet ((go_at_call 40; first | exact quiet_more (rsign_any _ _) | exact Calls.quiet_of_same ((rsign_any _ _).mono (by rintro e w' ⟨rfl, rfl⟩; exact ⟨rfl, rfl⟩))))
        go_wp2_with (first
                | (go_at_call 33; refine (rwithin_b hb _).mono ?_; rintro e w' ⟨rfl, rfl⟩)
                | (go_at_call 40; refine (rsign_any _ _).mono ?_; rintro e w' ⟨rfl, rfl⟩)
                | (go_at_call 37; refine (rclip_any _ _ _ _).mono ?_; rintro e w' ⟨rfl, rfl⟩))
        go_ret
        exact ⟨ret_of R1.out, by first | exact below_box (Below.refl _ _) _ | exact below_drewN (below_box (Below.refl _ _) _) _⟩
      · have R2 := Lib.hid (R2.out (fun h1 => hop h1.1))
        have hx : (sgn o == 1) = false := by simp [hop]
        clear hop R1
        go_enter Try.func36, Try.ntmps36
        go_wp2_with (first
                | (go_at_call 33; refine (rwithin_b hb _).mono ?_; rintro e w' ⟨rfl, rfl⟩)
                | (go_at_call 40; refine (rsign_any _ _).mono ?_; rintro e w' ⟨rfl, rfl⟩)
                | (go_at_call 37; refine (rclip_any _ _ _ _).mono ?_; rintro e w' ⟨rfl, rfl⟩))
        go_quiet ((go_at_call 40; first | exact quiet_more (rsign_any _ _) | exact Calls.quiet_of_same ((rsign_any _ _).mono (by rintro e w' ⟨rfl, rfl⟩; exact ⟨rfl, rfl⟩))))
        go_wp2_with (first
                | (go_at_call 33; refine (rwithin_b hb _).mono ?_; rintro e w' ⟨rfl, rfl⟩)
                | (go_at_call 40; refine (rsign_any _ _).mono ?_; rintro e w' ⟨rfl, rfl⟩)
                | (go_at_call 37; refine (rclip_any _ _ _ _).mono ?_; rintro e w' ⟨rfl, rfl⟩))
        go_ret
        exact ⟨ret_of R2.out, by first | exact below_box (Below.refl _ _) _ | exact below_drewN (below_box (Below.refl _ _) _) _⟩

set_option maxHeartbeats 4000000 in
theorem f36_zp {G D R net : Int} (h : okC G D R) (hv : R < net) (hn : -33554432 ≤ net) (hn2 : net ≤ 33554432) (w : World) :
    Calls Try.prog 36 #[.agg #[.int .i64 G, .int .i64 D, .int .i64 R], .int .i64 0, .int .i64 net] w fun e w' => e = .returned (.int .i64 (spd G D R 0 net)) ∧ Below w.heap.size w w' := by
  obtain ⟨P, p, t, q, hP, p1, p2, hp, p3, p4, ht, p5, p6, hq, p7, p8, ha, hd⟩ := parts (v := 0) (net := net) (u := 1) h (by omega) (by omega) hn hn2 (by omega)
  obtain ⟨g1, g2, g3, g4, g5, g6⟩ := h
  have hs : sgn net = 1 := sgn_pos (by omega)
  have hb : Hid (decide (-R ≤ net ∧ net ≤ R) = false) := Lib.hid (by simp; omega)
  have hpe : (net - R) * G = p := by rw [← hp]; simp
  have ho : outS G D R 0 net = t := by rw [out_zero, hs, ha]
  have R2 := Lib.hid (spd_two (G := G) (D := D) (R := R) (v := 0) (net := net) (by omega) (by omega))
  rw [ho] at R2
  clear hp p7 p8 hq ha hd ho
  have hz0 := sgn_zero
  by_cases hD : 0 < D
  all_goals
    go_enter Try.func36, Try.ntmps36
    go_wp2_with (first
            | (go_at_call 33; refine (rwithin_b hb _).mono ?_; rintro e w' ⟨rfl, rfl⟩)
            | (go_at_call 40; refine (rsign_any _ _).mono ?_; rintro e w' ⟨rfl, rfl⟩)
            | (go_at_call 37; refine (rclip_any _ _ _ _).mono ?_; rintro e w' ⟨rfl, rfl⟩))
    go_quiet ((go_at_call 40; first | exact quiet_more (rsign_any _ _) | exact Calls.quiet_of_same ((rsign_any _ _).mono (by rintro e w' ⟨rfl, rfl⟩; exact ⟨rfl, rfl⟩))))
    go_wp2_with (first
            | (go_at_call 33; refine (rwithin_b hb _).mono ?_; rintro e w' ⟨rfl, rfl⟩)
            | (go_at_call 40; refine (rsign_any _ _).mono ?_; rintro e w' ⟨rfl, rfl⟩)
            | (go_at_call 37; refine (rclip_any _ _ _ _).mono ?_; rintro e w' ⟨rfl, rfl⟩))
    go_quiet ((go_at_call 40; first | exact quiet_more (rsign_any _ _) | exact Calls.quiet_of_same ((rsign_any _ _).mono (by rintro e w' ⟨rfl, rfl⟩; exact ⟨rfl, rfl⟩))))
    go_wp2_with (first
            | (go_at_call 33; refine (rwithin_b hb _).mono ?_; rintro e w' ⟨rfl, rfl⟩)
            | (go_at_call 40; refine (rsign_any _ _).mono ?_; rintro e w' ⟨rfl, rfl⟩)
            | (go_at_call 37; refine (rclip_any _ _ _ _).mono ?_; rintro e w' ⟨rfl, rfl⟩))
    go_ret
    exact ⟨ret_of R2.out, by first | exact below_box (Below.refl _ _) _ | exact below_drewN (below_box (Below.refl _ _) _) _⟩

set_option maxHeartbeats 4000000 in
theorem f36_zn {G D R net : Int} (h : okC G D R) (hv : net < -R) (hn : -33554432 ≤ net) (hn2 : net ≤ 33554432) (w : World) :
    Calls Try.prog 36 #[.agg #[.int .i64 G, .int .i64 D, .int .i64 R], .int .i64 0, .int .i64 net] w fun e w' => e = .returned (.int .i64 (spd G D R 0 net)) ∧ Below w.heap.size w w' := by
  obtain ⟨P, p, t, q, hP, p1, p2, hp, p3, p4, ht, p5, p6, hq, p7, p8, ha, hd⟩ := parts (v := 0) (net := net) (u := (-1)) h (by omega) (by omega) hn hn2 (by omega)
  obtain ⟨g1, g2, g3, g4, g5, g6⟩ := h
  have hs : sgn net = -1 := sgn_neg (by omega)
  have hb : Hid (decide (-R ≤ net ∧ net ≤ R) = false) := Lib.hid (by simp; omega)
  have hpe : (net + R) * G = p := by rw [← hp]; simp
  have ho : outS G D R 0 net = t := by rw [out_zero, hs, ha]
  have R2 := Lib.hid (spd_two (G := G) (D := D) (R := R) (v := 0) (net := net) (by omega) (by omega))
  rw [ho] at R2
  clear hp p7 p8 hq ha hd ho
  have hz0 := sgn_zero
  by_cases hD : 0 < D
  all_goals
    go_enter Try.func36, Try.ntmps36
    go_wp2_with (first
            | (go_at_call 33; refine (rwithin_b hb _).mono ?_; rintro e w' ⟨rfl, rfl⟩)
            | (go_at_call 40; refine (rsign_any _ _).mono ?_; rintro e w' ⟨rfl, rfl⟩)
            | (go_at_call 37; refine (rclip_any _ _ _ _).mono ?_; rintro e w' ⟨rfl, rfl⟩))
    go_quiet ((go_at_call 40; first | exact quiet_more (rsign_any _ _) | exact Calls.quiet_of_same ((rsign_any _ _).mono (by rintro e w' ⟨rfl, rfl⟩; exact ⟨rfl, rfl⟩))))
    go_wp2_with (first
            | (go_at_call 33; refine (rwithin_b hb _).mono ?_; rintro e w' ⟨rfl, rfl⟩)
            | (go_at_call 40; refine (rsign_any _ _).mono ?_; rintro e w' ⟨rfl, rfl⟩)
            | (go_at_call 37; refine (rclip_any _ _ _ _).mono ?_; rintro e w' ⟨rfl, rfl⟩))
    go_quiet ((go_at_call 40; first | exact quiet_more (rsign_any _ _) | exact Calls.quiet_of_same ((rsign_any _ _).mono (by rintro e w' ⟨rfl, rfl⟩; exact ⟨rfl, rfl⟩))))
    go_wp2_with (first
            | (go_at_call 33; refine (rwithin_b hb _).mono ?_; rintro e w' ⟨rfl, rfl⟩)
            | (go_at_call 40; refine (rsign_any _ _).mono ?_; rintro e w' ⟨rfl, rfl⟩)
            | (go_at_call 37; refine (rclip_any _ _ _ _).mono ?_; rintro e w' ⟨rfl, rfl⟩))
    go_ret
    exact ⟨ret_of R2.out, by first | exact below_box (Below.refl _ _) _ | exact below_drewN (below_box (Below.refl _ _) _) _⟩

set_option maxHeartbeats 1000000 in
theorem f36_z {G D R net : Int} (h : -R ≤ net ∧ net ≤ R) (hR : 0 ≤ R ∧ R ≤ 16777216) (w : World) :
    Calls Try.prog 36 #[.agg #[.int .i64 G, .int .i64 D, .int .i64 R], .int .i64 0, .int .i64 net] w fun e w' => e = .returned (.int .i64 (spd G D R 0 net)) ∧ Below w.heap.size w w' := by
  rw [spd_zero h]
  have hb : Hid (decide (-R ≤ net ∧ net ≤ R) = true) := Lib.hid (by simpa using h)
  go_enter Try.func36, Try.ntmps36
  go_wp2_with (first
        | (go_at_call 33; refine (rwithin_b hb _).mono ?_; rintro e w' ⟨rfl, rfl⟩)
        | (go_at_call 40; refine (rsign_any _ _).mono ?_; rintro e w' ⟨rfl, rfl⟩)
        | (go_at_call 37; refine (rclip_any _ _ _ _).mono ?_; rintro e w' ⟨rfl, rfl⟩))
  go_ret
  exact ⟨rfl, below_box (Below.refl _ _) _⟩
theorem next_any {G D R v net : Int} (h : okC G D R) (hv : -1073741824 ≤ v) (hv2 : v ≤ 1073741824) (hn : -33554432 ≤ net) (hn2 : net ≤ 33554432) (w : World) :
    Calls Try.prog 36 #[.agg #[.int .i64 G, .int .i64 D, .int .i64 R], .int .i64 v, .int .i64 net] w fun e w' => e = .returned (.int .i64 (spd G D R v net)) ∧ Below w.heap.size w w' := by
  by_cases h1 : 0 < v
  · exact f36_pos h h1 hv2 hn hn2 w
  · by_cases h2 : v < 0
    · exact f36_neg h h2 hv hn hn2 w
    · obtain rfl : v = 0 := by omega
      by_cases h3 : R < net
      · exact f36_zp h h3 hn hn2 w
      · by_cases h4 : net < -R
        · exact f36_zn h h4 hn hn2 w
        · exact f36_z ⟨by omega, by omega⟩ ⟨h.2.2.2.2.1, h.2.2.2.2.2⟩ w
end Go.Proofs.Ytckhlcifpeocdaa
