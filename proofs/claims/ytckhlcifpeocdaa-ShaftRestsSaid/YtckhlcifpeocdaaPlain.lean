/- The plain arithmetic of layer 29 (shaft): the speed after a tick, and its laws. No program in sight. -/
import Derived.Test.YtckhlcifpeocdaaBase
namespace Go.Proofs.Ytckhlcifpeocdaa

def sgn (n : Int) : Int := max (-1) (min n 1)
/-- A position modulo 2^57. -/
def wrapP (x : Int) : Int := (x + 72057594037927936) % 144115188075855872 - 72057594037927936
/-- The damping. -/
def dmp (D v : Int) : Int := if 0 < D then v.tdiv (2 ^ D.toNat) else 0
/-- What the net torque adds. -/
def acc (G R u net : Int) : Int := ((net - u * R) * G).tdiv 65536
def way (v net : Int) : Int := if v = 0 then sgn net else sgn v
def outS (G D R v net : Int) : Int := v - dmp D v + acc G R (way v net) net
/-- The speed after a tick. -/
def spd (G D R v net : Int) : Int :=
  if v = 0 ∧ -R ≤ net ∧ net ≤ R then 0
  else if (-R ≤ net ∧ net ≤ R) ∧ sgn (outS G D R v net) = -sgn v then 0
  else max (-1073741824) (min (outS G D R v net) 1073741824)

theorem pow_pos' (D : Int) : (1 : Int) ≤ 2 ^ D.toNat := by
  have : 0 < (2 : Int) ^ D.toNat := Int.pow_pos (by decide)
  omega
theorem tdiv_le {v P : Int} (hP : 1 ≤ P) (hv : 0 ≤ v) : 0 ≤ v.tdiv P ∧ v.tdiv P ≤ v := by
  have h1 := Int.tdiv_nonneg hv (show 0 ≤ P by omega)
  have h2 := tspec v P (by omega)
  have h3 : v.tdiv P ≤ P * v.tdiv P := by
    have := Int.mul_le_mul_of_nonneg_right hP h1
    omega
  have := h2.2.1 hv
  omega
theorem dmp_pos {D v : Int} (hv : 0 ≤ v) : 0 ≤ dmp D v ∧ dmp D v ≤ v := by
  unfold dmp
  split
  · exact tdiv_le (pow_pos' D) hv
  · omega
theorem dmp_neg (D v : Int) : dmp D (-v) = -dmp D v := by
  unfold dmp
  split
  · exact Int.neg_tdiv _ _
  · rfl
theorem dmp_neg' {D v : Int} (hv : v ≤ 0) : v ≤ dmp D v ∧ dmp D v ≤ 0 := by
  have h := dmp_pos (D := D) (v := -v) (by omega)
  rw [dmp_neg] at h
  omega
theorem mul_le {a A G B : Int} (h1 : -A ≤ a) (h2 : a ≤ A) (h3 : 0 ≤ G) (h4 : G ≤ B) (hA : 0 ≤ A) : -(A * B) ≤ a * G ∧ a * G ≤ A * B := by
  have e1 : a * G ≤ A * G := Int.mul_le_mul_of_nonneg_right h2 h3
  have e2 : -A * G ≤ a * G := Int.mul_le_mul_of_nonneg_right h1 h3
  have e3 : A * G ≤ A * B := Int.mul_le_mul_of_nonneg_left h4 hA
  rw [Int.neg_mul] at e2
  omega
theorem acc_mirror (G R u net : Int) : acc G R (-u) (-net) = -acc G R u net := by
  unfold acc
  have : -net - -u * R = -(net - u * R) := by rw [Int.neg_mul]; omega
  rw [this, Int.neg_mul, Int.neg_tdiv]
theorem tdiv_mono {a b : Int} (h : a ≤ b) : a.tdiv 65536 ≤ b.tdiv 65536 := by
  have h1 := tspec a 65536 (by decide)
  have h2 := tspec b 65536 (by decide)
  omega
theorem acc_mono {G R u n m : Int} (hG : 0 ≤ G) (h : n ≤ m) : acc G R u n ≤ acc G R u m := by
  unfold acc
  exact tdiv_mono (Int.mul_le_mul_of_nonneg_right (by omega) hG)
theorem acc_sign {G R u n : Int} (hG : 0 ≤ G) : (0 ≤ n - u * R → 0 ≤ acc G R u n) ∧ (n - u * R ≤ 0 → acc G R u n ≤ 0) := by
  constructor
  · intro h
    have := Int.mul_nonneg h hG
    have h1 := tspec ((n - u * R) * G) 65536 (by decide)
    unfold acc; omega
  · intro h
    have : (n - u * R) * G ≤ 0 := Int.mul_nonpos_of_nonpos_of_nonneg h hG
    have h1 := tspec ((n - u * R) * G) 65536 (by decide)
    unfold acc; omega

theorem sgn_pos {n : Int} (h : 0 < n) : sgn n = 1 := by unfold sgn; omega
theorem sgn_neg {n : Int} (h : n < 0) : sgn n = -1 := by unfold sgn; omega
theorem sgn_zero : sgn 0 = 0 := by decide
theorem sgn_mirror (n : Int) : sgn (-n) = -sgn n := by unfold sgn; omega
theorem way_mirror (v net : Int) : way (-v) (-net) = -way v net := by
  unfold way
  by_cases h : v = 0
  · subst h; simp [sgn_mirror]
  · have : ¬ -v = 0 := by omega
    simp [h, this, sgn_mirror]
theorem out_mirror (G D R v net : Int) : outS G D R (-v) (-net) = -outS G D R v net := by
  unfold outS
  rw [dmp_neg, way_mirror, acc_mirror]
  omega

/-- The mirror law: with all signs reversed the speed is reversed. -/
theorem spd_mirror (G D R v net : Int) : spd G D R (-v) (-net) = -spd G D R v net := by
  unfold spd
  rw [out_mirror, sgn_mirror, sgn_mirror]
  generalize outS G D R v net = o
  by_cases h1 : v = 0 ∧ -R ≤ net ∧ net ≤ R
  · rw [if_pos h1, if_pos (by omega)]; rfl
  · rw [if_neg h1, if_neg (by omega)]
    by_cases h2 : (-R ≤ net ∧ net ≤ R) ∧ sgn o = -sgn v
    · rw [if_pos h2, if_pos (by omega)]; rfl
    · rw [if_neg h2, if_neg (by omega)]; omega

theorem out_pos {G D R v net : Int} (h : 0 < v) : outS G D R v net = v - dmp D v + acc G R 1 net := by
  have : ¬ v = 0 := by omega
  unfold outS way
  rw [if_neg this, sgn_pos h]
theorem out_zero {G D R net : Int} : outS G D R 0 net = acc G R (sgn net) net := by
  have : dmp D 0 = 0 := by have := dmp_pos (D := D) (v := 0) (by omega); omega
  unfold outS way
  rw [if_pos rfl, this]; omega

/-- Within the dry friction the speed never grows and never changes its side. -/
theorem spd_rest_pos {G D R v net : Int} (hG : 0 ≤ G) (hv : 0 ≤ v) (hv2 : v ≤ 1073741824) (h1 : -R ≤ net) (h2 : net ≤ R) : 0 ≤ spd G D R v net ∧ spd G D R v net ≤ v := by
  unfold spd
  by_cases h0 : v = 0
  · rw [if_pos ⟨h0, h1, h2⟩]; omega
  · rw [if_neg (by omega), out_pos (by omega), sgn_pos (show 0 < v by omega)]
    have ha := (acc_sign (G := G) (R := R) (u := 1) (n := net) hG).2 (by omega)
    have hd := dmp_pos (D := D) hv
    have ho : v - dmp D v + acc G R 1 net ≤ v := by omega
    generalize v - dmp D v + acc G R 1 net = o at *
    unfold sgn
    split <;> omega
end Go.Proofs.Ytckhlcifpeocdaa
