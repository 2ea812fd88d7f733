/- The plain laws of layer 29's speed: rest, stopping, the bound, more torque. No program in sight. -/
import Derived.Test.YtckhlcifpeocdaaPlain
namespace Go.Proofs.Ytckhlcifpeocdaa

theorem out_zero' {G D R net u : Int} (h : sgn net = u) : outS G D R 0 net = acc G R u net := by rw [out_zero, h]
theorem spd_cases (G D R v net : Int) :
    (spd G D R v net = 0 ∧ ((v = 0 ∧ -R ≤ net ∧ net ≤ R) ∨ ((-R ≤ net ∧ net ≤ R) ∧ sgn (outS G D R v net) = -sgn v))) ∨
    (spd G D R v net = max (-1073741824) (min (outS G D R v net) 1073741824) ∧ ¬ (v = 0 ∧ -R ≤ net ∧ net ≤ R) ∧ ¬ ((-R ≤ net ∧ net ≤ R) ∧ sgn (outS G D R v net) = -sgn v)) := by
  unfold spd
  by_cases h1 : v = 0 ∧ -R ≤ net ∧ net ≤ R
  · rw [if_pos h1]; exact .inl ⟨rfl, .inl h1⟩
  · rw [if_neg h1]
    by_cases h2 : (-R ≤ net ∧ net ≤ R) ∧ sgn (outS G D R v net) = -sgn v
    · rw [if_pos h2]; exact .inl ⟨rfl, .inr h2⟩
    · rw [if_neg h2]; exact .inr ⟨rfl, h1, h2⟩

theorem spd_rest {G D R v net : Int} (hG : 0 ≤ G) (hv : -1073741824 ≤ v) (hv2 : v ≤ 1073741824) (h1 : -R ≤ net) (h2 : net ≤ R) :
    (0 ≤ v → 0 ≤ spd G D R v net ∧ spd G D R v net ≤ v) ∧ (v ≤ 0 → v ≤ spd G D R v net ∧ spd G D R v net ≤ 0) := by
  refine ⟨fun h => spd_rest_pos hG h hv2 h1 h2, fun h => ?_⟩
  have := spd_rest_pos (G := G) (D := D) (R := R) (v := -v) (net := -net) hG (by omega) (by omega) (by omega) (by omega)
  rw [spd_mirror] at this
  omega

theorem spd_stop_pos {G D R v : Int} (hG : 0 ≤ G) (hR : 0 ≤ R) (hv : 0 ≤ v) (hv2 : v ≤ 1073741824) :
    0 ≤ spd G D R v 0 ∧ spd G D R v 0 ≤ max 0 (v - (R * G).tdiv 65536) := by
  have hr := spd_rest_pos (G := G) (D := D) (R := R) (v := v) (net := 0) hG hv hv2 (by omega) (by omega)
  refine ⟨hr.1, ?_⟩
  rcases spd_cases G D R v 0 with ⟨e, _⟩ | ⟨e, n1, n2⟩
  · omega
  · have hv0 : 0 < v := by omega
    have hd := dmp_pos (D := D) hv
    have ha : acc G R 1 0 = -(R * G).tdiv 65536 := by
      unfold acc
      rw [show (0 - 1 * R) * G = -(R * G) by rw [Int.one_mul, Int.zero_sub, Int.neg_mul], Int.neg_tdiv]
    rw [out_pos hv0, ha] at e n2
    rw [e]
    omega
theorem spd_stop {G D R v : Int} (hG : 0 ≤ G) (hR : 0 ≤ R) (hv : -1073741824 ≤ v) (hv2 : v ≤ 1073741824) :
    max (spd G D R v 0) (-spd G D R v 0) ≤ max 0 (max v (-v) - (R * G).tdiv 65536) := by
  by_cases h : 0 ≤ v
  · have := spd_stop_pos (D := D) hG hR h hv2
    omega
  · have := spd_stop_pos (D := D) (v := -v) hG hR (by omega) (by omega)
    have e := spd_mirror G D R v 0
    rw [Int.neg_zero] at e
    rw [e] at this
    omega

theorem acc_le {G R u net M : Int} (hG : 0 ≤ G) (hR : 0 ≤ R) (hu : u = 1 ∨ u = -1) (h1 : -M ≤ net) (h2 : net ≤ M) :
    -((M + R) * G).tdiv 65536 ≤ acc G R u net ∧ acc G R u net ≤ ((M + R) * G).tdiv 65536 := by
  have e1 : (net - u * R) * G ≤ (M + R) * G := Int.mul_le_mul_of_nonneg_right (by rcases hu with rfl | rfl <;> omega) hG
  have e2 : -(M + R) * G ≤ (net - u * R) * G := Int.mul_le_mul_of_nonneg_right (by rcases hu with rfl | rfl <;> omega) hG
  have t1 := tdiv_mono e1
  have t2 := tdiv_mono e2
  rw [Int.neg_mul, Int.neg_tdiv] at t2
  exact ⟨t2, t1⟩
theorem spd_fast {G D R v net M : Int} (hG : 0 ≤ G) (hR : 0 ≤ R) (hM : 0 ≤ M) (hv : -1073741824 ≤ v) (hv2 : v ≤ 1073741824) (h1 : -M ≤ net) (h2 : net ≤ M) :
    max (spd G D R v net) (-spd G D R v net) ≤ max v (-v) + ((M + R) * G).tdiv 65536 := by
  have hA : 0 ≤ ((M + R) * G).tdiv 65536 := Int.tdiv_nonneg (Int.mul_nonneg (by omega) hG) (by decide)
  rcases spd_cases G D R v net with ⟨e, _⟩ | ⟨e, n1, n2⟩
  · omega
  · rw [e]
    by_cases h0 : v = 0
    · subst h0
      have hw : sgn net = 1 ∨ sgn net = -1 := by
        by_cases hp : 0 < net
        · exact .inl (sgn_pos hp)
        · exact .inr (sgn_neg (by omega))
      have := acc_le (u := sgn net) hG hR hw h1 h2
      rw [out_zero]
      omega
    · have hw : way v net = 1 ∨ way v net = -1 := by
        unfold way
        rw [if_neg h0]
        by_cases hp : 0 < v
        · exact .inl (sgn_pos hp)
        · exact .inr (sgn_neg (by omega))
      have := acc_le (u := way v net) hG hR hw h1 h2
      have hd : (0 ≤ v → 0 ≤ dmp D v ∧ dmp D v ≤ v) ∧ (v ≤ 0 → v ≤ dmp D v ∧ dmp D v ≤ 0) := ⟨dmp_pos, dmp_neg'⟩
      unfold outS
      omega

theorem spd_mono_pos {G D R v n m : Int} (hG : 0 ≤ G) (hR : 0 ≤ R) (hv : 0 < v) (h : n ≤ m) : spd G D R v n ≤ spd G D R v m := by
  have ha := acc_mono (G := G) (R := R) (u := 1) hG h
  have hs := sgn_pos hv
  have hd := dmp_pos (D := D) (v := v) (by omega)
  have hm := (acc_sign (G := G) (R := R) (u := 1) (n := m) hG).1
  have e1 := spd_cases G D R v n
  have e2 := spd_cases G D R v m
  rw [out_pos hv, hs] at e1 e2
  generalize acc G R 1 n = a at *
  generalize acc G R 1 m = b at *
  unfold sgn at e1 e2
  omega
theorem spd_mono_zero {G D R n m : Int} (hG : 0 ≤ G) (hR : 0 ≤ R) (h : n ≤ m) : spd G D R 0 n ≤ spd G D R 0 m := by
  have e1 := spd_cases G D R 0 n
  have e2 := spd_cases G D R 0 m
  rw [out_zero, sgn_zero] at e1 e2
  have p : ∀ k, (R < k → sgn k = 1) ∧ (k < -R → sgn k = -1) := fun k => ⟨fun hk => sgn_pos (by omega), fun hk => sgn_neg (by omega)⟩
  have am := acc_mono (G := G) (R := R) (u := 1) hG h
  have an := acc_mono (G := G) (R := R) (u := -1) hG h
  have s1 := (acc_sign (G := G) (R := R) (u := 1) (n := m) hG).1
  have s2 := (acc_sign (G := G) (R := R) (u := -1) (n := n) hG).2
  have s3 := (acc_sign (G := G) (R := R) (u := 1) (n := n) hG).1
  have s4 := (acc_sign (G := G) (R := R) (u := -1) (n := m) hG).2
  by_cases hn1 : R < n
  · rw [(p n).1 hn1] at e1
    rw [(p m).1 (by omega)] at e2
    omega
  · by_cases hn2 : n < -R
    · rw [(p n).2 hn2] at e1
      by_cases hm1 : R < m
      · rw [(p m).1 hm1] at e2; omega
      · by_cases hm2 : m < -R
        · rw [(p m).2 hm2] at e2; omega
        · omega
    · by_cases hm1 : R < m
      · rw [(p m).1 hm1] at e2; omega
      · omega
theorem spd_mono {G D R v n m : Int} (hG : 0 ≤ G) (hR : 0 ≤ R) (h : n ≤ m) : spd G D R v n ≤ spd G D R v m := by
  by_cases h0 : v = 0
  · subst h0; exact spd_mono_zero hG hR h
  · by_cases h1 : 0 < v
    · exact spd_mono_pos hG hR h1 h
    · have := spd_mono_pos (G := G) (D := D) (R := R) (v := -v) (n := -m) (m := -n) hG hR (by omega) (by omega)
      rw [spd_mirror, spd_mirror] at this
      omega
end Go.Proofs.Ytckhlcifpeocdaa
