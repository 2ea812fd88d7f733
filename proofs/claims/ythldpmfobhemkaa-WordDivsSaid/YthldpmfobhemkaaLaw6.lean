/- The contracts of Div and of the reference's; the walk of WordDivs. -/
import Derived.Test.YthldpmfobhemkaaLaw3
namespace Go.Proofs.Ythldpmfobhemkaa
open Go.RowKit

/-- u / d, rounded; d is above 0. -/
def dvd (u d m : Int) : Int := if upR (u / d) (u % d) d m (decide (u < 0)) then u / d + 1 else u / d
/-- The numerator and the divisor, the sign moved up. -/
def numF (x y : Int) (n : Nat) : Int := if y < 0 then -(x * 2 ^ n) else x * 2 ^ n
def denF (y : Int) : Int := if y < 0 then -y else y
theorem num_le {x : Int} (hx : -2147483648 ≤ x ∧ x ≤ 2147483647) {n : Nat} (hn : n ≤ 31) : -4611686018427387904 ≤ x * 2 ^ n ∧ x * 2 ^ n ≤ 4611686018427387904 := by
  have h1 := p2 n
  have h2 := p2_le hn
  have e : (2 : Int) ^ 31 = 2147483648 := by decide
  have h3 := Int.natAbs_mul x (2 ^ n)
  have h4 : x.natAbs ≤ 2147483648 := by omega
  have h5 : ((2 : Int) ^ n).natAbs ≤ 2147483648 := by omega
  have h6 := Nat.mul_le_mul h4 h5
  omega
/-- Go's quotient and remainder, moved down where the remainder is below 0. -/
theorem floor_of {u d : Int} (h : 0 < d) : (¬ u.tmod d < 0 ∧ u.tdiv d = u / d ∧ u.tmod d = u % d) ∨ (u.tmod d < 0 ∧ u.tdiv d - 1 = u / d ∧ u.tmod d + d = u % d) := by
  have t := tspec u d h
  have m0 := Int.emod_nonneg u (show d ≠ 0 by omega)
  have m1 := Int.emod_lt_of_pos u h
  have m2 := Int.mul_ediv_add_emod u d
  by_cases g : u.tmod d < 0
  · right
    have hu : u ≤ 0 := by
      rcases Int.le_total 0 u with a | a
      · have := t.2.1 a; omega
      · exact a
    have b := t.2.2 hu
    have e : u = (u.tmod d + d) + (u.tdiv d - 1) * d := by rw [Int.sub_mul, Int.mul_comm (u.tdiv d)]; omega
    have q : u / d = u.tdiv d - 1 := by
      conv => lhs; rw [e]
      rw [Int.add_mul_ediv_right _ _ (by omega), Int.ediv_eq_zero_of_lt (by omega) (by omega)]
      omega
    refine ⟨g, q.symm, ?_⟩
    conv => rhs; rw [e]
    rw [Int.add_mul_emod_self_right, Int.emod_eq_of_lt (by omega) (by omega)]
  · left
    have b : 0 ≤ u.tmod d ∧ u.tmod d < d := by
      rcases Int.le_total 0 u with a | a
      · have := t.2.1 a; omega
      · have := t.2.2 a; omega
    have e : u = u.tmod d + u.tdiv d * d := by rw [Int.mul_comm (u.tdiv d)]; omega
    have q : u / d = u.tdiv d := by
      conv => lhs; rw [e]
      rw [Int.add_mul_ediv_right _ _ (by omega), Int.ediv_eq_zero_of_lt b.1 b.2]
      omega
    refine ⟨g, q.symm, ?_⟩
    conv => rhs; rw [e]
    rw [Int.add_mul_emod_self_right, Int.emod_eq_of_lt b.1 b.2]
theorem up_div (u q r d m : Int) : upP (decide (u < 0)) (r == 0) (q % 2 == 1) (cmpI (2 * r) d) m = upR q r d m (decide (u < 0)) := by
  unfold upP upR cmpI
  by_cases h1 : m = 1
  · subst h1; simp
  · by_cases h2 : m = 2
    · subst h2
      simp only [show ((2 : Int) == 1) = false from rfl, show ((2 : Int) == 2) = true from rfl, show ((2 : Int) == 3) = false from rfl, Bool.false_and, Bool.true_and, Bool.or_false, Bool.false_or, show ¬ (2 : Int) = 1 by decide, if_false, if_true]
      congr 1
      apply propext
      split
      · omega
      · split <;> omega
    · by_cases h3 : m = 3
      · subst h3
        simp only [show ((3 : Int) == 1) = false from rfl, show ((3 : Int) == 2) = false from rfl, show ((3 : Int) == 3) = true from rfl, Bool.false_and, Bool.true_and, Bool.false_or, show ¬ (3 : Int) = 1 by decide, show ¬ (3 : Int) = 2 by decide, if_false, if_true]
        by_cases a : 2 * r < d
        · have c : ¬ d = 2 * r := by omega
          have c2 : ¬ d < 2 * r := by omega
          simp [a, c, c2]
        · by_cases b : d < 2 * r
          · simp [a, b]
          · have c : d = 2 * r := by omega
            subst c
            simp
      · simp [h1, h2, h3]

set_option maxHeartbeats 6000000 in
theorem Div_yes (b s x y : Int) (n : Nat) (m : Int) (h : okW b s x y) (hn : n ≤ 31) (hm : 0 ≤ m) (hm2 : m ≤ 3) (hy0 : ¬ y = 0) (w : World) : Calls Try.prog 35 #[.agg #[.int .i64 b, .int .i64 s], .int .i64 x, .int .i64 y, .int .i64 n, .int .i64 m] w fun e w' => e = .returned (.tuple #[.int .i64 (satV b (dvd (numF x y n) (denF y) m)), .bool (satB b (dvd (numF x y n) (denF y) m)), .nilIface]) ∧ Below w.heap.size w w' := by
  have hA := h.1.1
  have hB := h.1.2.1
  have hx := isW_le hA hB h.2.1
  have hy := isW_le hA hB h.2.2
  have hu := num_le hx hn
  have hs0 : (0 : Int) ≤ (n : Int) := Int.natCast_nonneg _
  have hs1 : (n : Int) ≤ 64 := by omega
  have hs2 : (n : Int) ≤ 31 := by omega
  have w0 : IntKind.i64.wrap (x * 2 ^ n) = x * 2 ^ n := IntWalk.i64_in _ (by omega)
  have y0 : (y == 0) = false := by simp [hy0]
  have pre : ∃ u d : Int, (numF x y n = u ∧ denF y = d) ∧ ((y < 0 ∧ u = -(x * 2 ^ n) ∧ d = -y) ∨ (¬ y < 0 ∧ u = x * 2 ^ n ∧ d = y)) := by
    unfold numF denF
    by_cases g : y < 0
    · exact ⟨_, _, ⟨rfl, rfl⟩, .inl ⟨g, by rw [if_pos g], by rw [if_pos g]⟩⟩
    · exact ⟨_, _, ⟨rfl, rfl⟩, .inr ⟨g, by rw [if_neg g], by rw [if_neg g]⟩⟩
  obtain ⟨u, d, ⟨e1, e2⟩, hud⟩ := pre
  rw [e1, e2]
  clear e1 e2
  obtain ⟨v, hv⟩ : ∃ v, x * 2 ^ n = v := ⟨_, rfl⟩
  rw [hv] at hu w0 hud
  have hd : 0 < d ∧ d ≤ 2147483648 := by omega
  have hu2 : -4611686018427387904 ≤ u ∧ u ≤ 4611686018427387904 := by omega
  have fl := floor_of (u := u) hd.1
  have m0 := Int.emod_nonneg u (show d ≠ 0 by omega)
  have m1 := Int.emod_lt_of_pos u hd.1
  have tq := tspec u d hd.1
  have qb : -4611686018427387905 ≤ u / d ∧ u / d ≤ 4611686018427387904 := by
    have mm := Int.mul_ediv_add_emod u d
    constructor
    · rw [Int.le_ediv_iff_mul_le hd.1]
      have : 4611686018427387905 * 1 ≤ 4611686018427387905 * d := Int.mul_le_mul_of_nonneg_left (by omega) (by decide)
      omega
    · have a := Int.ediv_le_ediv hd.1 hu2.2
      have c := Int.ediv_le_self d (show (0 : Int) ≤ 4611686018427387904 by decide)
      omega
  obtain ⟨z, hz⟩ : ∃ z, dvd u d m = z := ⟨_, rfl⟩
  have hz2 : (upR (u / d) (u % d) d m (decide (u < 0)) = true ∧ z = u / d + 1) ∨ (upR (u / d) (u % d) d m (decide (u < 0)) = false ∧ z = u / d) := by
    rw [← hz]
    unfold dvd
    split
    · rename_i g; exact .inl ⟨g, rfl⟩
    · rename_i g; exact .inr ⟨by rw [← Bool.not_eq_true]; exact g, rfl⟩
  rw [hz]
  clear hz
  have d0 : (d == 0) = false := by simp; omega
  have d00 : ¬ d = 0 := by omega
  obtain ⟨q0, hq0⟩ : ∃ q0, u.tdiv d = q0 := ⟨_, rfl⟩
  obtain ⟨r0, hr0⟩ : ∃ r0, u.tmod d = r0 := ⟨_, rfl⟩
  rw [hq0, hr0] at fl tq
  have UP := up_div u (u / d) (u % d) d m
  generalize u / d = q at *
  generalize u % d = r at *
  have q0b : -4611686018427387905 ≤ q0 ∧ q0 ≤ 4611686018427387905 := by rcases fl with ⟨_, h, _⟩ | ⟨_, h, _⟩ <;> omega
  have wq : IntKind.i64.wrap q0 = q0 := IntWalk.i64_in _ (by omega)
  have wq1 : IntKind.i64.wrap (q + 1) = q + 1 := IntWalk.i64_in _ (by omega)
  have eo : bits .and .i64 q 1 = q % 2 := by
    have := bits_mask 1 (by decide) q
    simpa using this
  have w2 : IntKind.i64.wrap (2 * r) = 2 * r := IntWalk.i64_in _ (by omega)
  have SA := Lib.hid (saturate_any b s z hA hB)
  have HY := Lib.hid hud
  clear hud tq qb
  rcases hz2 with ⟨hu1, hzz⟩ | ⟨hu1, hzz⟩
  all_goals
    rw [hu1] at UP
    have UP := Lib.hid UP
    have HZ := Lib.hid hzz
    clear hu1 hzz
    rcases HY.out with ⟨g, ue, de⟩ | ⟨g, ue, de⟩
    · rcases fl with ⟨f0, f1, f2⟩ | ⟨f0, f1, f2⟩
      · have gy : decide (y < 0) = true := decide_eq_true g
        have wn : IntKind.i64.wrap (-v) = u := by rw [← ue]; exact IntWalk.i64_in _ (by omega)
        have wd : IntKind.i64.wrap (-y) = d := by rw [← de]; exact IntWalk.i64_in _ (by omega)
        have gr : decide (r0 < 0) = false := decide_eq_false f0
        subst f1 f2
        clear ue de
        clear g f0
        go_enter Try.func35, Try.ntmps35
        go_wp2_with fail
        (with_reducible refine (both_yes b s x y h _).mono ?_)
        rintro e w1 ⟨rfl, hb1⟩
        obtain ⟨bF1, cF1, fF1, zF1⟩ := (Blk.new w 23 #[.int .i64 b, .int .i64 s]).next hb1
        try simp at bF1 cF1 fF1 zF1
        have B1 := below_call (below_box (Below.refl w.heap.size w) _) hb1
        go_wp2_with fail
        (with_reducible refine (within_yes _ _ _ hs0 hs2 _).mono ?_)
        rintro e w' ⟨rfl, rfl⟩
        go_wp2_with fail
        (with_reducible refine (mode_yes _ hm hm2 _).mono ?_)
        rintro e w' ⟨rfl, rfl⟩
        go_wp2_with fail
        go_quiet (fail)
        have bG := bF1.drewN nq
        have BG := below_drewN B1 nq
        generalize w1.drewN nq = wg at bG BG ⊢
        clear cF1 fF1 zF1
        obtain ⟨cG, fG, zG⟩ := And.intro bG.cell (And.intro bG.frozen bG.lt)
        go_wp2_with fail
        (with_reducible refine (compare_any _ _ _).mono ?_)
        rintro e' w' ⟨rfl, rfl⟩
        go_wp2_with fail
        (with_reducible refine (up_any _ _ _ _ _ _).mono ?_)
        rw [UP.out]
        rintro e' w' ⟨rfl, rfl⟩
        go_wp2_with fail
        rw [← HZ.out]
        (with_reducible refine (SA.out _).mono ?_)
        rintro e w9 ⟨rfl, hb9⟩
        have B9 := below_call BG hb9
        go_wp2_with fail
        refine bodyPost_ret (v := .tuple #[.int .i64 (satV b z), .bool (satB b z), .nilIface]) ?_ rfl ⟨rfl, ?_⟩
        · simp [results, Try.results35, go_sem]
        · exact B9
      · have gy : decide (y < 0) = true := decide_eq_true g
        have wn : IntKind.i64.wrap (-v) = u := by rw [← ue]; exact IntWalk.i64_in _ (by omega)
        have wd : IntKind.i64.wrap (-y) = d := by rw [← de]; exact IntWalk.i64_in _ (by omega)
        have gr : decide (r0 < 0) = true := decide_eq_true f0
        have wb1 : IntKind.i64.wrap (q0 - 1) = q := by rw [f1]; exact IntWalk.i64_in _ (by omega)
        have wb2 : IntKind.i64.wrap (r0 + d) = r := by rw [f2]; exact IntWalk.i64_in _ (by omega)
        clear f1 f2
        clear ue de
        clear g f0
        go_enter Try.func35, Try.ntmps35
        go_wp2_with fail
        (with_reducible refine (both_yes b s x y h _).mono ?_)
        rintro e w1 ⟨rfl, hb1⟩
        obtain ⟨bF1, cF1, fF1, zF1⟩ := (Blk.new w 23 #[.int .i64 b, .int .i64 s]).next hb1
        try simp at bF1 cF1 fF1 zF1
        have B1 := below_call (below_box (Below.refl w.heap.size w) _) hb1
        go_wp2_with fail
        (with_reducible refine (within_yes _ _ _ hs0 hs2 _).mono ?_)
        rintro e w' ⟨rfl, rfl⟩
        go_wp2_with fail
        (with_reducible refine (mode_yes _ hm hm2 _).mono ?_)
        rintro e w' ⟨rfl, rfl⟩
        go_wp2_with fail
        go_quiet (fail)
        have bG := bF1.drewN nq
        have BG := below_drewN B1 nq
        generalize w1.drewN nq = wg at bG BG ⊢
        clear cF1 fF1 zF1
        obtain ⟨cG, fG, zG⟩ := And.intro bG.cell (And.intro bG.frozen bG.lt)
        go_wp2_with fail
        (with_reducible refine (compare_any _ _ _).mono ?_)
        rintro e' w' ⟨rfl, rfl⟩
        go_wp2_with fail
        (with_reducible refine (up_any _ _ _ _ _ _).mono ?_)
        rw [UP.out]
        rintro e' w' ⟨rfl, rfl⟩
        go_wp2_with fail
        rw [← HZ.out]
        (with_reducible refine (SA.out _).mono ?_)
        rintro e w9 ⟨rfl, hb9⟩
        have B9 := below_call BG hb9
        go_wp2_with fail
        refine bodyPost_ret (v := .tuple #[.int .i64 (satV b z), .bool (satB b z), .nilIface]) ?_ rfl ⟨rfl, ?_⟩
        · simp [results, Try.results35, go_sem]
        · exact B9
    · rcases fl with ⟨f0, f1, f2⟩ | ⟨f0, f1, f2⟩
      · have gy : decide (y < 0) = false := decide_eq_false g
        have gr : decide (r0 < 0) = false := decide_eq_false f0
        subst f1 f2
        have de2 := de.symm
        clear de
        subst de2
        subst ue
        clear g f0
        go_enter Try.func35, Try.ntmps35
        go_wp2_with fail
        (with_reducible refine (both_yes b s x y h _).mono ?_)
        rintro e w1 ⟨rfl, hb1⟩
        obtain ⟨bF1, cF1, fF1, zF1⟩ := (Blk.new w 23 #[.int .i64 b, .int .i64 s]).next hb1
        try simp at bF1 cF1 fF1 zF1
        have B1 := below_call (below_box (Below.refl w.heap.size w) _) hb1
        go_wp2_with fail
        (with_reducible refine (within_yes _ _ _ hs0 hs2 _).mono ?_)
        rintro e w' ⟨rfl, rfl⟩
        go_wp2_with fail
        (with_reducible refine (mode_yes _ hm hm2 _).mono ?_)
        rintro e w' ⟨rfl, rfl⟩
        go_wp2_with fail
        go_quiet (fail)
        have bG := bF1.drewN nq
        have BG := below_drewN B1 nq
        generalize w1.drewN nq = wg at bG BG ⊢
        clear cF1 fF1 zF1
        obtain ⟨cG, fG, zG⟩ := And.intro bG.cell (And.intro bG.frozen bG.lt)
        go_wp2_with fail
        (with_reducible refine (compare_any _ _ _).mono ?_)
        rintro e' w' ⟨rfl, rfl⟩
        go_wp2_with fail
        (with_reducible refine (up_any _ _ _ _ _ _).mono ?_)
        rw [UP.out]
        rintro e' w' ⟨rfl, rfl⟩
        go_wp2_with fail
        rw [← HZ.out]
        (with_reducible refine (SA.out _).mono ?_)
        rintro e w9 ⟨rfl, hb9⟩
        have B9 := below_call BG hb9
        go_wp2_with fail
        refine bodyPost_ret (v := .tuple #[.int .i64 (satV b z), .bool (satB b z), .nilIface]) ?_ rfl ⟨rfl, ?_⟩
        · simp [results, Try.results35, go_sem]
        · exact B9
      · have gy : decide (y < 0) = false := decide_eq_false g
        have gr : decide (r0 < 0) = true := decide_eq_true f0
        have wb1 : IntKind.i64.wrap (q0 - 1) = q := by rw [f1]; exact IntWalk.i64_in _ (by omega)
        have wb2 : IntKind.i64.wrap (r0 + d) = r := by rw [f2]; exact IntWalk.i64_in _ (by omega)
        clear f1 f2
        have de2 := de.symm
        clear de
        subst de2
        subst ue
        clear g f0
        go_enter Try.func35, Try.ntmps35
        go_wp2_with fail
        (with_reducible refine (both_yes b s x y h _).mono ?_)
        rintro e w1 ⟨rfl, hb1⟩
        obtain ⟨bF1, cF1, fF1, zF1⟩ := (Blk.new w 23 #[.int .i64 b, .int .i64 s]).next hb1
        try simp at bF1 cF1 fF1 zF1
        have B1 := below_call (below_box (Below.refl w.heap.size w) _) hb1
        go_wp2_with fail
        (with_reducible refine (within_yes _ _ _ hs0 hs2 _).mono ?_)
        rintro e w' ⟨rfl, rfl⟩
        go_wp2_with fail
        (with_reducible refine (mode_yes _ hm hm2 _).mono ?_)
        rintro e w' ⟨rfl, rfl⟩
        go_wp2_with fail
        go_quiet (fail)
        have bG := bF1.drewN nq
        have BG := below_drewN B1 nq
        generalize w1.drewN nq = wg at bG BG ⊢
        clear cF1 fF1 zF1
        obtain ⟨cG, fG, zG⟩ := And.intro bG.cell (And.intro bG.frozen bG.lt)
        go_wp2_with fail
        (with_reducible refine (compare_any _ _ _).mono ?_)
        rintro e' w' ⟨rfl, rfl⟩
        go_wp2_with fail
        (with_reducible refine (up_any _ _ _ _ _ _).mono ?_)
        rw [UP.out]
        rintro e' w' ⟨rfl, rfl⟩
        go_wp2_with fail
        rw [← HZ.out]
        (with_reducible refine (SA.out _).mono ?_)
        rintro e w9 ⟨rfl, hb9⟩
        have B9 := below_call BG hb9
        go_wp2_with fail
        refine bodyPost_ret (v := .tuple #[.int .i64 (satV b z), .bool (satB b z), .nilIface]) ?_ rfl ⟨rfl, ?_⟩
        · simp [results, Try.results35, go_sem]
        · exact B9

set_option maxHeartbeats 6000000 in
theorem rDiv_yes (b s x y : Int) (n : Nat) (m : Int) (h : okW b s x y) (hn : n ≤ 31) (hm : 0 ≤ m) (hm2 : m ≤ 3) (hy0 : ¬ y = 0) (w : World) : Calls Try.prog 36 #[.agg #[.int .i64 b, .int .i64 s], .int .i64 x, .int .i64 y, .int .i64 n, .int .i64 m] w fun e w' => e = .returned (.tuple #[.int .i64 (satV b (dvd (numF x y n) (denF y) m)), .bool (satB b (dvd (numF x y n) (denF y) m)), .int .i64 0]) ∧ Below w.heap.size w w' := by
  have hA := h.1.1
  have hB := h.1.2.1
  have hx := isW_le hA hB h.2.1
  have hy := isW_le hA hB h.2.2
  have hu := num_le hx hn
  have hs0 : (0 : Int) ≤ (n : Int) := Int.natCast_nonneg _
  have hs1 : (n : Int) ≤ 64 := by omega
  have hs2 : (n : Int) ≤ 31 := by omega
  have w0 : IntKind.i64.wrap (x * 2 ^ n) = x * 2 ^ n := IntWalk.i64_in _ (by omega)
  have y0 : (y == 0) = false := by simp [hy0]
  have pre : ∃ u d : Int, (numF x y n = u ∧ denF y = d) ∧ ((y < 0 ∧ u = -(x * 2 ^ n) ∧ d = -y) ∨ (¬ y < 0 ∧ u = x * 2 ^ n ∧ d = y)) := by
    unfold numF denF
    by_cases g : y < 0
    · exact ⟨_, _, ⟨rfl, rfl⟩, .inl ⟨g, by rw [if_pos g], by rw [if_pos g]⟩⟩
    · exact ⟨_, _, ⟨rfl, rfl⟩, .inr ⟨g, by rw [if_neg g], by rw [if_neg g]⟩⟩
  obtain ⟨u, d, ⟨e1, e2⟩, hud⟩ := pre
  rw [e1, e2]
  clear e1 e2
  obtain ⟨v, hv⟩ : ∃ v, x * 2 ^ n = v := ⟨_, rfl⟩
  rw [hv] at hu w0 hud
  have hd : 0 < d ∧ d ≤ 2147483648 := by omega
  have hu2 : -4611686018427387904 ≤ u ∧ u ≤ 4611686018427387904 := by omega
  have fl := floor_of (u := u) hd.1
  have m0 := Int.emod_nonneg u (show d ≠ 0 by omega)
  have m1 := Int.emod_lt_of_pos u hd.1
  have tq := tspec u d hd.1
  have qb : -4611686018427387905 ≤ u / d ∧ u / d ≤ 4611686018427387904 := by
    have mm := Int.mul_ediv_add_emod u d
    constructor
    · rw [Int.le_ediv_iff_mul_le hd.1]
      have : 4611686018427387905 * 1 ≤ 4611686018427387905 * d := Int.mul_le_mul_of_nonneg_left (by omega) (by decide)
      omega
    · have a := Int.ediv_le_ediv hd.1 hu2.2
      have c := Int.ediv_le_self d (show (0 : Int) ≤ 4611686018427387904 by decide)
      omega
  obtain ⟨z, hz⟩ : ∃ z, dvd u d m = z := ⟨_, rfl⟩
  have hz2 : (upR (u / d) (u % d) d m (decide (u < 0)) = true ∧ z = u / d + 1) ∨ (upR (u / d) (u % d) d m (decide (u < 0)) = false ∧ z = u / d) := by
    rw [← hz]
    unfold dvd
    split
    · rename_i g; exact .inl ⟨g, rfl⟩
    · rename_i g; exact .inr ⟨by rw [← Bool.not_eq_true]; exact g, rfl⟩
  rw [hz]
  clear hz
  have IX := rIs_yes b s x h.1
  rw [h.2.1] at IX
  have IX := Lib.hid IX
  have IY := rIs_yes b s y h.1
  rw [h.2.2] at IY
  have IY := Lib.hid IY
  have n1 : decide ((n : Int) < 0) = false := decide_eq_false (by omega)
  have n2 : decide (31 < (n : Int)) = false := decide_eq_false (by omega)
  have d0 : (d == 0) = false := by simp; omega
  have d00 : ¬ d = 0 := by omega
  obtain ⟨q0, hq0⟩ : ∃ q0, u.tdiv d = q0 := ⟨_, rfl⟩
  obtain ⟨r0, hr0⟩ : ∃ r0, u.tmod d = r0 := ⟨_, rfl⟩
  rw [hq0, hr0] at fl tq
  have UP := rup_any (u / d) (u % d) d m (decide (u < 0)) m0 m1 (by omega)
  generalize u / d = q at *
  generalize u % d = r at *
  have q0b : -4611686018427387905 ≤ q0 ∧ q0 ≤ 4611686018427387905 := by rcases fl with ⟨_, h, _⟩ | ⟨_, h, _⟩ <;> omega
  have wq : IntKind.i64.wrap q0 = q0 := IntWalk.i64_in _ (by omega)
  have wq1 : IntKind.i64.wrap (q + 1) = q + 1 := IntWalk.i64_in _ (by omega)
  have SA := Lib.hid (rClip_any b s z hA hB)
  have HY := Lib.hid hud
  clear hud tq qb
  rcases hz2 with ⟨hu1, hzz⟩ | ⟨hu1, hzz⟩
  all_goals
    rw [hu1] at UP
    have UP := Lib.hid UP
    have HZ := Lib.hid hzz
    clear hu1 hzz
    rcases HY.out with ⟨g, ue, de⟩ | ⟨g, ue, de⟩
    · rcases fl with ⟨f0, f1, f2⟩ | ⟨f0, f1, f2⟩
      · have gy : decide (y < 0) = true := decide_eq_true g
        have wn : IntKind.i64.wrap (-v) = u := by rw [← ue]; exact IntWalk.i64_in _ (by omega)
        have wd : IntKind.i64.wrap (-y) = d := by rw [← de]; exact IntWalk.i64_in _ (by omega)
        have gr : decide (r0 < 0) = false := decide_eq_false f0
        subst f1 f2
        clear ue de
        clear g f0
        go_enter Try.func36, Try.ntmps36
        go_wp2_with fail
        (with_reducible refine (IX.out _).mono ?_)
        rintro e w1 ⟨rfl, hb1⟩
        obtain ⟨bF1, cF1, fF1, zF1⟩ := (Blk.new w 23 #[.int .i64 b, .int .i64 s]).next hb1
        try simp at bF1 cF1 fF1 zF1
        have B1 := below_call (below_box (Below.refl w.heap.size w) _) hb1
        go_wp2_with fail
        (with_reducible refine (IY.out _).mono ?_)
        rintro e w2 ⟨rfl, hb2⟩
        obtain ⟨bF2, cF2, fF2, zF2⟩ := (bF1).next hb2
        try simp at bF2 cF2 fF2 zF2
        have B2 := below_call (B1) hb2
        clear cF1 fF1 zF1
        go_wp2_with fail
        (with_reducible refine (rmode_yes _ hm hm2 _).mono ?_)
        rintro e w' ⟨rfl, rfl⟩
        go_wp2_with fail
        go_quiet (fail)
        have bG := bF2.drewN nq
        have BG := below_drewN B2 nq
        generalize w2.drewN nq = wg at bG BG ⊢
        clear cF2 fF2 zF2
        obtain ⟨cG, fG, zG⟩ := And.intro bG.cell (And.intro bG.frozen bG.lt)
        go_wp2_with fail
        (with_reducible refine (UP.out _).mono ?_)
        rintro e' w' ⟨rfl, rfl⟩
        go_wp2_with fail
        rw [← HZ.out]
        (with_reducible refine (SA.out _).mono ?_)
        rintro e w9 ⟨rfl, hb9⟩
        have B9 := below_call BG hb9
        go_wp2_with fail
        refine bodyPost_ret (v := .tuple #[.int .i64 (satV b z), .bool (satB b z), .int .i64 0]) ?_ rfl ⟨rfl, ?_⟩
        · simp [results, Try.results36, go_sem]
        · exact B9
      · have gy : decide (y < 0) = true := decide_eq_true g
        have wn : IntKind.i64.wrap (-v) = u := by rw [← ue]; exact IntWalk.i64_in _ (by omega)
        have wd : IntKind.i64.wrap (-y) = d := by rw [← de]; exact IntWalk.i64_in _ (by omega)
        have gr : decide (r0 < 0) = true := decide_eq_true f0
        have wb1 : IntKind.i64.wrap (q0 - 1) = q := by rw [f1]; exact IntWalk.i64_in _ (by omega)
        have wb2 : IntKind.i64.wrap (r0 + d) = r := by rw [f2]; exact IntWalk.i64_in _ (by omega)
        clear f1 f2
        clear ue de
        clear g f0
        go_enter Try.func36, Try.ntmps36
        go_wp2_with fail
        (with_reducible refine (IX.out _).mono ?_)
        rintro e w1 ⟨rfl, hb1⟩
        obtain ⟨bF1, cF1, fF1, zF1⟩ := (Blk.new w 23 #[.int .i64 b, .int .i64 s]).next hb1
        try simp at bF1 cF1 fF1 zF1
        have B1 := below_call (below_box (Below.refl w.heap.size w) _) hb1
        go_wp2_with fail
        (with_reducible refine (IY.out _).mono ?_)
        rintro e w2 ⟨rfl, hb2⟩
        obtain ⟨bF2, cF2, fF2, zF2⟩ := (bF1).next hb2
        try simp at bF2 cF2 fF2 zF2
        have B2 := below_call (B1) hb2
        clear cF1 fF1 zF1
        go_wp2_with fail
        (with_reducible refine (rmode_yes _ hm hm2 _).mono ?_)
        rintro e w' ⟨rfl, rfl⟩
        go_wp2_with fail
        go_quiet (fail)
        have bG := bF2.drewN nq
        have BG := below_drewN B2 nq
        generalize w2.drewN nq = wg at bG BG ⊢
        clear cF2 fF2 zF2
        obtain ⟨cG, fG, zG⟩ := And.intro bG.cell (And.intro bG.frozen bG.lt)
        go_wp2_with fail
        (with_reducible refine (UP.out _).mono ?_)
        rintro e' w' ⟨rfl, rfl⟩
        go_wp2_with fail
        rw [← HZ.out]
        (with_reducible refine (SA.out _).mono ?_)
        rintro e w9 ⟨rfl, hb9⟩
        have B9 := below_call BG hb9
        go_wp2_with fail
        refine bodyPost_ret (v := .tuple #[.int .i64 (satV b z), .bool (satB b z), .int .i64 0]) ?_ rfl ⟨rfl, ?_⟩
        · simp [results, Try.results36, go_sem]
        · exact B9
    · rcases fl with ⟨f0, f1, f2⟩ | ⟨f0, f1, f2⟩
      · have gy : decide (y < 0) = false := decide_eq_false g
        have gr : decide (r0 < 0) = false := decide_eq_false f0
        subst f1 f2
        have de2 := de.symm
        clear de
        subst de2
        subst ue
        clear g f0
        go_enter Try.func36, Try.ntmps36
        go_wp2_with fail
        (with_reducible refine (IX.out _).mono ?_)
        rintro e w1 ⟨rfl, hb1⟩
        obtain ⟨bF1, cF1, fF1, zF1⟩ := (Blk.new w 23 #[.int .i64 b, .int .i64 s]).next hb1
        try simp at bF1 cF1 fF1 zF1
        have B1 := below_call (below_box (Below.refl w.heap.size w) _) hb1
        go_wp2_with fail
        (with_reducible refine (IY.out _).mono ?_)
        rintro e w2 ⟨rfl, hb2⟩
        obtain ⟨bF2, cF2, fF2, zF2⟩ := (bF1).next hb2
        try simp at bF2 cF2 fF2 zF2
        have B2 := below_call (B1) hb2
        clear cF1 fF1 zF1
        go_wp2_with fail
        (with_reducible refine (rmode_yes _ hm hm2 _).mono ?_)
        rintro e w' ⟨rfl, rfl⟩
        go_wp2_with fail
        go_quiet (fail)
        have bG := bF2.drewN nq
        have BG := below_drewN B2 nq
        generalize w2.drewN nq = wg at bG BG ⊢
        clear cF2 fF2 zF2
        obtain ⟨cG, fG, zG⟩ := And.intro bG.cell (And.intro bG.frozen bG.lt)
        go_wp2_with fail
        (with_reducible refine (UP.out _).mono ?_)
        rintro e' w' ⟨rfl, rfl⟩
        go_wp2_with fail
        rw [← HZ.out]
        (with_reducible refine (SA.out _).mono ?_)
        rintro e w9 ⟨rfl, hb9⟩
        have B9 := below_call BG hb9
        go_wp2_with fail
        refine bodyPost_ret (v := .tuple #[.int .i64 (satV b z), .bool (satB b z), .int .i64 0]) ?_ rfl ⟨rfl, ?_⟩
        · simp [results, Try.results36, go_sem]
        · exact B9
      · have gy : decide (y < 0) = false := decide_eq_false g
        have gr : decide (r0 < 0) = true := decide_eq_true f0
        have wb1 : IntKind.i64.wrap (q0 - 1) = q := by rw [f1]; exact IntWalk.i64_in _ (by omega)
        have wb2 : IntKind.i64.wrap (r0 + d) = r := by rw [f2]; exact IntWalk.i64_in _ (by omega)
        clear f1 f2
        have de2 := de.symm
        clear de
        subst de2
        subst ue
        clear g f0
        go_enter Try.func36, Try.ntmps36
        go_wp2_with fail
        (with_reducible refine (IX.out _).mono ?_)
        rintro e w1 ⟨rfl, hb1⟩
        obtain ⟨bF1, cF1, fF1, zF1⟩ := (Blk.new w 23 #[.int .i64 b, .int .i64 s]).next hb1
        try simp at bF1 cF1 fF1 zF1
        have B1 := below_call (below_box (Below.refl w.heap.size w) _) hb1
        go_wp2_with fail
        (with_reducible refine (IY.out _).mono ?_)
        rintro e w2 ⟨rfl, hb2⟩
        obtain ⟨bF2, cF2, fF2, zF2⟩ := (bF1).next hb2
        try simp at bF2 cF2 fF2 zF2
        have B2 := below_call (B1) hb2
        clear cF1 fF1 zF1
        go_wp2_with fail
        (with_reducible refine (rmode_yes _ hm hm2 _).mono ?_)
        rintro e w' ⟨rfl, rfl⟩
        go_wp2_with fail
        go_quiet (fail)
        have bG := bF2.drewN nq
        have BG := below_drewN B2 nq
        generalize w2.drewN nq = wg at bG BG ⊢
        clear cF2 fF2 zF2
        obtain ⟨cG, fG, zG⟩ := And.intro bG.cell (And.intro bG.frozen bG.lt)
        go_wp2_with fail
        (with_reducible refine (UP.out _).mono ?_)
        rintro e' w' ⟨rfl, rfl⟩
        go_wp2_with fail
        rw [← HZ.out]
        (with_reducible refine (SA.out _).mono ?_)
        rintro e w9 ⟨rfl, hb9⟩
        have B9 := below_call BG hb9
        go_wp2_with fail
        refine bodyPost_ret (v := .tuple #[.int .i64 (satV b z), .bool (satB b z), .int .i64 0]) ?_ rfl ⟨rfl, ?_⟩
        · simp [results, Try.results36, go_sem]
        · exact B9

set_option maxHeartbeats 1000000 in
theorem Div_no (b s x y : Int) (n m : Int) (h : ¬ (okW b s x y ∧ (0 ≤ n ∧ n ≤ 31) ∧ 0 ≤ m ∧ m ≤ 3)) (w : World) : Calls Try.prog 35 #[.agg #[.int .i64 b, .int .i64 s], .int .i64 x, .int .i64 y, .int .i64 n, .int .i64 m] w fun e w' => e = .returned (.tuple #[.int .i64 0, .bool false, .iface 67 (.int .i64 3)]) ∧ Below w.heap.size w w' := by
  by_cases h0 : okW b s x y
  · by_cases h1 : 0 ≤ n ∧ n ≤ 31
    · have h3 : ¬ (0 ≤ m ∧ m ≤ 3) := fun hh => h ⟨h0, h1, hh⟩
      have h2 : m < 0 ∨ 3 < m := by omega
      go_enter Try.func35, Try.ntmps35
      go_wp2_with fail
      (with_reducible refine (both_yes b s x y h0 _).mono ?_)
      rintro e w1 ⟨rfl, hb1⟩
      obtain ⟨bF1, cF1, fF1, zF1⟩ := (Blk.new w 23 #[.int .i64 b, .int .i64 s]).next hb1
      try simp at bF1 cF1 fF1 zF1
      have B1 := below_call (below_box (Below.refl w.heap.size w) _) hb1
      go_wp2_with fail
      (with_reducible refine (within_yes _ _ _ h1.1 h1.2 _).mono ?_)
      rintro e w' ⟨rfl, rfl⟩
      go_wp2_with fail
      (with_reducible refine (mode_no _ h2 _).mono ?_)
      rintro e w' ⟨rfl, rfl⟩
      go_wp2_with fail
      refine bodyPost_ret (v := .tuple #[.int .i64 0, .bool false, .iface 67 (.int .i64 3)]) ?_ rfl ⟨rfl, ?_⟩
      · simp [results, Try.results35, go_sem]
      · exact B1
    · go_enter Try.func35, Try.ntmps35
      go_wp2_with fail
      (with_reducible refine (both_yes b s x y h0 _).mono ?_)
      rintro e w1 ⟨rfl, hb1⟩
      obtain ⟨bF1, cF1, fF1, zF1⟩ := (Blk.new w 23 #[.int .i64 b, .int .i64 s]).next hb1
      try simp at bF1 cF1 fF1 zF1
      have B1 := below_call (below_box (Below.refl w.heap.size w) _) hb1
      go_wp2_with fail
      (with_reducible refine (within_no _ _ _ (by omega) _).mono ?_)
      rintro e w' ⟨rfl, rfl⟩
      go_wp2_with fail
      refine bodyPost_ret (v := .tuple #[.int .i64 0, .bool false, .iface 67 (.int .i64 3)]) ?_ rfl ⟨rfl, ?_⟩
      · simp [results, Try.results35, go_sem]
      · exact B1
  · go_enter Try.func35, Try.ntmps35
    go_wp2_with fail
    (with_reducible refine (both_no b s x y h0 _).mono ?_)
    rintro e w1 ⟨rfl, hb1⟩
    obtain ⟨bF1, cF1, fF1, zF1⟩ := (Blk.new w 23 #[.int .i64 b, .int .i64 s]).next hb1
    try simp at bF1 cF1 fF1 zF1
    have B1 := below_call (below_box (Below.refl w.heap.size w) _) hb1
    go_wp2_with fail
    refine bodyPost_ret (v := .tuple #[.int .i64 0, .bool false, .iface 67 (.int .i64 3)]) ?_ rfl ⟨rfl, ?_⟩
    · simp [results, Try.results35, go_sem]
    · exact B1

set_option maxHeartbeats 1000000 in
theorem Div_zero (b s x : Int) (n m : Int) (h : okW b s x 0) (h1 : 0 ≤ n ∧ n ≤ 31) (h2 : 0 ≤ m ∧ m ≤ 3) (w : World) : Calls Try.prog 35 #[.agg #[.int .i64 b, .int .i64 s], .int .i64 x, .int .i64 0, .int .i64 n, .int .i64 m] w fun e w' => e = .returned (.tuple #[.int .i64 0, .bool false, .iface 67 (.int .i64 8)]) ∧ Below w.heap.size w w' := by
  go_enter Try.func35, Try.ntmps35
  go_wp2_with fail
  (with_reducible refine (both_yes b s x 0 h _).mono ?_)
  rintro e w1 ⟨rfl, hb1⟩
  obtain ⟨bF1, cF1, fF1, zF1⟩ := (Blk.new w 23 #[.int .i64 b, .int .i64 s]).next hb1
  try simp at bF1 cF1 fF1 zF1
  have B1 := below_call (below_box (Below.refl w.heap.size w) _) hb1
  go_wp2_with fail
  (with_reducible refine (within_yes _ _ _ h1.1 h1.2 _).mono ?_)
  rintro e w' ⟨rfl, rfl⟩
  go_wp2_with fail
  (with_reducible refine (mode_yes _ h2.1 h2.2 _).mono ?_)
  rintro e w' ⟨rfl, rfl⟩
  go_wp2_with fail
  refine bodyPost_ret (v := .tuple #[.int .i64 0, .bool false, .iface 67 (.int .i64 8)]) ?_ rfl ⟨rfl, ?_⟩
  · simp [results, Try.results35, go_sem]
  · exact B1

set_option maxHeartbeats 1000000 in
theorem rDiv_no (b s x y : Int) (n m : Int) (h : ¬ (okW b s x y ∧ (0 ≤ n ∧ n ≤ 31) ∧ 0 ≤ m ∧ m ≤ 3)) (w : World) : Calls Try.prog 36 #[.agg #[.int .i64 b, .int .i64 s], .int .i64 x, .int .i64 y, .int .i64 n, .int .i64 m] w fun e w' => e = .returned (.tuple #[.int .i64 0, .bool false, .int .i64 3]) ∧ Below w.heap.size w w' := by
  have six : (¬ okF b s) ∨ (okF b s ∧ isW b x = false) ∨ (okF b s ∧ isW b x = true ∧ isW b y = false) ∨ (okF b s ∧ isW b x = true ∧ isW b y = true ∧ decide (n < 0) = true) ∨ (okF b s ∧ isW b x = true ∧ isW b y = true ∧ decide (n < 0) = false ∧ decide (31 < n) = true) ∨ (okF b s ∧ isW b x = true ∧ isW b y = true ∧ decide (n < 0) = false ∧ decide (31 < n) = false ∧ (m < 0 ∨ 3 < m)) := by
    by_cases h0 : okF b s
    · cases h1 : isW b x
      · exact .inr (.inl ⟨h0, rfl⟩)
      · cases h2 : isW b y
        · exact .inr (.inr (.inl ⟨h0, rfl, rfl⟩))
        · by_cases h3 : n < 0
          · exact .inr (.inr (.inr (.inl ⟨h0, rfl, rfl, decide_eq_true h3⟩)))
          · by_cases h4 : 31 < n
            · exact .inr (.inr (.inr (.inr (.inl ⟨h0, rfl, rfl, decide_eq_false h3, decide_eq_true h4⟩))))
            · refine .inr (.inr (.inr (.inr (.inr ⟨h0, rfl, rfl, decide_eq_false h3, decide_eq_false h4, ?_⟩))))
              have : ¬ (0 ≤ m ∧ m ≤ 3) := fun hh => h ⟨⟨h0, h1, h2⟩, ⟨by omega, by omega⟩, hh⟩
              omega
    · exact .inl h0
  clear h
  rcases six with h0 | ⟨h0, h1⟩ | ⟨h0, h1, h2⟩ | ⟨h0, h1, h2, h3⟩ | ⟨h0, h1, h2, h3, h4⟩ | ⟨h0, h1, h2, h3, h4, h5⟩
  · go_enter Try.func36, Try.ntmps36
    go_wp2_with fail
    (with_reducible refine (rIs_no b s x h0 _).mono ?_)
    rintro e w1 ⟨rfl, hb1⟩
    obtain ⟨bF1, cF1, fF1, zF1⟩ := (Blk.new w 23 #[.int .i64 b, .int .i64 s]).next hb1
    try simp at bF1 cF1 fF1 zF1
    have B1 := below_call (below_box (Below.refl w.heap.size w) _) hb1
    go_wp2_with fail
    refine bodyPost_ret (v := .tuple #[.int .i64 0, .bool false, .int .i64 3]) ?_ rfl ⟨rfl, ?_⟩
    · simp [results, Try.results36, go_sem]
    · exact B1
  · have IX := rIs_yes b s x h0
    rw [h1] at IX
    have IX := Lib.hid IX
    go_enter Try.func36, Try.ntmps36
    go_wp2_with fail
    (with_reducible refine (IX.out _).mono ?_)
    rintro e w1 ⟨rfl, hb1⟩
    obtain ⟨bF1, cF1, fF1, zF1⟩ := (Blk.new w 23 #[.int .i64 b, .int .i64 s]).next hb1
    try simp at bF1 cF1 fF1 zF1
    have B1 := below_call (below_box (Below.refl w.heap.size w) _) hb1
    go_wp2_with fail
    refine bodyPost_ret (v := .tuple #[.int .i64 0, .bool false, .int .i64 3]) ?_ rfl ⟨rfl, ?_⟩
    · simp [results, Try.results36, go_sem]
    · exact B1
  · have IX := rIs_yes b s x h0
    rw [h1] at IX
    have IX := Lib.hid IX
    have IY := rIs_yes b s y h0
    rw [h2] at IY
    have IY := Lib.hid IY
    go_enter Try.func36, Try.ntmps36
    go_wp2_with fail
    (with_reducible refine (IX.out _).mono ?_)
    rintro e w1 ⟨rfl, hb1⟩
    obtain ⟨bF1, cF1, fF1, zF1⟩ := (Blk.new w 23 #[.int .i64 b, .int .i64 s]).next hb1
    try simp at bF1 cF1 fF1 zF1
    have B1 := below_call (below_box (Below.refl w.heap.size w) _) hb1
    go_wp2_with fail
    (with_reducible refine (IY.out _).mono ?_)
    rintro e w2 ⟨rfl, hb2⟩
    obtain ⟨bF2, cF2, fF2, zF2⟩ := (bF1).next hb2
    try simp at bF2 cF2 fF2 zF2
    have B2 := below_call (B1) hb2
    clear cF1 fF1 zF1
    go_wp2_with fail
    refine bodyPost_ret (v := .tuple #[.int .i64 0, .bool false, .int .i64 3]) ?_ rfl ⟨rfl, ?_⟩
    · simp [results, Try.results36, go_sem]
    · exact B2
  · have IX := rIs_yes b s x h0
    rw [h1] at IX
    have IX := Lib.hid IX
    have IY := rIs_yes b s y h0
    rw [h2] at IY
    have IY := Lib.hid IY
    go_enter Try.func36, Try.ntmps36
    go_wp2_with fail
    (with_reducible refine (IX.out _).mono ?_)
    rintro e w1 ⟨rfl, hb1⟩
    obtain ⟨bF1, cF1, fF1, zF1⟩ := (Blk.new w 23 #[.int .i64 b, .int .i64 s]).next hb1
    try simp at bF1 cF1 fF1 zF1
    have B1 := below_call (below_box (Below.refl w.heap.size w) _) hb1
    go_wp2_with fail
    (with_reducible refine (IY.out _).mono ?_)
    rintro e w2 ⟨rfl, hb2⟩
    obtain ⟨bF2, cF2, fF2, zF2⟩ := (bF1).next hb2
    try simp at bF2 cF2 fF2 zF2
    have B2 := below_call (B1) hb2
    clear cF1 fF1 zF1
    go_wp2_with fail
    refine bodyPost_ret (v := .tuple #[.int .i64 0, .bool false, .int .i64 3]) ?_ rfl ⟨rfl, ?_⟩
    · simp [results, Try.results36, go_sem]
    · exact B2
  · have IX := rIs_yes b s x h0
    rw [h1] at IX
    have IX := Lib.hid IX
    have IY := rIs_yes b s y h0
    rw [h2] at IY
    have IY := Lib.hid IY
    go_enter Try.func36, Try.ntmps36
    go_wp2_with fail
    (with_reducible refine (IX.out _).mono ?_)
    rintro e w1 ⟨rfl, hb1⟩
    obtain ⟨bF1, cF1, fF1, zF1⟩ := (Blk.new w 23 #[.int .i64 b, .int .i64 s]).next hb1
    try simp at bF1 cF1 fF1 zF1
    have B1 := below_call (below_box (Below.refl w.heap.size w) _) hb1
    go_wp2_with fail
    (with_reducible refine (IY.out _).mono ?_)
    rintro e w2 ⟨rfl, hb2⟩
    obtain ⟨bF2, cF2, fF2, zF2⟩ := (bF1).next hb2
    try simp at bF2 cF2 fF2 zF2
    have B2 := below_call (B1) hb2
    clear cF1 fF1 zF1
    go_wp2_with fail
    refine bodyPost_ret (v := .tuple #[.int .i64 0, .bool false, .int .i64 3]) ?_ rfl ⟨rfl, ?_⟩
    · simp [results, Try.results36, go_sem]
    · exact B2
  · have IX := rIs_yes b s x h0
    rw [h1] at IX
    have IX := Lib.hid IX
    have IY := rIs_yes b s y h0
    rw [h2] at IY
    have IY := Lib.hid IY
    go_enter Try.func36, Try.ntmps36
    go_wp2_with fail
    (with_reducible refine (IX.out _).mono ?_)
    rintro e w1 ⟨rfl, hb1⟩
    obtain ⟨bF1, cF1, fF1, zF1⟩ := (Blk.new w 23 #[.int .i64 b, .int .i64 s]).next hb1
    try simp at bF1 cF1 fF1 zF1
    have B1 := below_call (below_box (Below.refl w.heap.size w) _) hb1
    go_wp2_with fail
    (with_reducible refine (IY.out _).mono ?_)
    rintro e w2 ⟨rfl, hb2⟩
    obtain ⟨bF2, cF2, fF2, zF2⟩ := (bF1).next hb2
    try simp at bF2 cF2 fF2 zF2
    have B2 := below_call (B1) hb2
    clear cF1 fF1 zF1
    go_wp2_with fail
    (with_reducible refine (rmode_no _ h5 _).mono ?_)
    rintro e w' ⟨rfl, rfl⟩
    go_wp2_with fail
    refine bodyPost_ret (v := .tuple #[.int .i64 0, .bool false, .int .i64 3]) ?_ rfl ⟨rfl, ?_⟩
    · simp [results, Try.results36, go_sem]
    · exact B2

set_option maxHeartbeats 1000000 in
theorem rDiv_zero (b s x : Int) (n m : Int) (h : okW b s x 0) (h1 : 0 ≤ n ∧ n ≤ 31) (h2 : 0 ≤ m ∧ m ≤ 3) (w : World) : Calls Try.prog 36 #[.agg #[.int .i64 b, .int .i64 s], .int .i64 x, .int .i64 0, .int .i64 n, .int .i64 m] w fun e w' => e = .returned (.tuple #[.int .i64 0, .bool false, .int .i64 8]) ∧ Below w.heap.size w w' := by
  have h0 := h.1
  have n1 : decide (n < 0) = false := decide_eq_false (by omega)
  have n2 : decide (31 < n) = false := decide_eq_false (by omega)
  have IX := rIs_yes b s x h0
  rw [h.2.1] at IX
  have IX := Lib.hid IX
  have IY := rIs_yes b s 0 h0
  rw [h.2.2] at IY
  have IY := Lib.hid IY
  go_enter Try.func36, Try.ntmps36
  go_wp2_with fail
  (with_reducible refine (IX.out _).mono ?_)
  rintro e w1 ⟨rfl, hb1⟩
  obtain ⟨bF1, cF1, fF1, zF1⟩ := (Blk.new w 23 #[.int .i64 b, .int .i64 s]).next hb1
  try simp at bF1 cF1 fF1 zF1
  have B1 := below_call (below_box (Below.refl w.heap.size w) _) hb1
  go_wp2_with fail
  (with_reducible refine (IY.out _).mono ?_)
  rintro e w2 ⟨rfl, hb2⟩
  obtain ⟨bF2, cF2, fF2, zF2⟩ := (bF1).next hb2
  try simp at bF2 cF2 fF2 zF2
  have B2 := below_call (B1) hb2
  clear cF1 fF1 zF1
  go_wp2_with fail
  (with_reducible refine (rmode_yes _ h2.1 h2.2 _).mono ?_)
  rintro e w' ⟨rfl, rfl⟩
  go_wp2_with fail
  refine bodyPost_ret (v := .tuple #[.int .i64 0, .bool false, .int .i64 8]) ?_ rfl ⟨rfl, ?_⟩
  · simp [results, Try.results36, go_sem]
  · exact B2

theorem num_8 (w : World) : Calls Try.prog 16 #[.iface 67 (.int .i64 8)] w fun e w' => e = .returned (.int .i64 8) ∧ w = w' := num_any 8 w

set_option maxHeartbeats 2000000 in
theorem divs_any (b s x y n m : Int)  (w : World) : Calls Try.prog 13 #[.agg #[.int .i64 b, .int .i64 s], .agg #[.int .i64 x, .int .i64 y], .agg #[.int .i64 n, .int .i64 m]] w fun e w' => e = .returned (.bool true) ∧ Below w.heap.size w w' := by
  by_cases h : okW b s x y ∧ (0 ≤ n ∧ n ≤ 31) ∧ 0 ≤ m ∧ m ≤ 3
  · by_cases hy : y = 0
    · subst hy
      have HD := Lib.hid (Div_zero b s x n m h.1 h.2.1 h.2.2)
      have HR := Lib.hid (rDiv_zero b s x n m h.1 h.2.1 h.2.2)
      clear h
      go_enter Try.func13, Try.ntmps13
      go_wp2_with fail
      (with_reducible refine (awake_any _).mono ?_)
      rintro e w1 ⟨rfl, hb1⟩
      obtain ⟨bF1, cF1, fF1, zF1⟩ := (((Blk.new w 23 #[.int .i64 b, .int .i64 s]).alloc _).alloc _).next hb1
      obtain ⟨bA1, cA1, fA1, zA1⟩ := ((Blk.new (w.alloc _) 43 #[.int .i64 x, .int .i64 0]).alloc _).next hb1
      obtain ⟨bW1, cW1, fW1, zW1⟩ := (Blk.new ((w.alloc _).alloc _) 28 #[.int .i64 n, .int .i64 m]).next hb1
      simp at bF1 cF1 fF1 zF1 bA1 cA1 fA1 zA1 bW1 cW1 fW1 zW1
      have B1 := below_call (below_box (below_box (below_box (Below.refl w.heap.size w) _) _) _) hb1
      go_wp2_with fail
      (with_reducible refine (HD.out _).mono ?_)
      rintro e w2 ⟨rfl, hb2⟩
      obtain ⟨bF2, cF2, fF2, zF2⟩ := bF1.next hb2
      obtain ⟨bA2, cA2, fA2, zA2⟩ := bA1.next hb2
      obtain ⟨bW2, cW2, fW2, zW2⟩ := bW1.next hb2
      have B2 := below_call B1 hb2
      clear cF1 fF1 zF1 cA1 fA1 zA1 cW1 fW1 zW1
      go_wp2_with fail
      (with_reducible refine (HR.out _).mono ?_)
      rintro e w3 ⟨rfl, hb3⟩
      obtain ⟨bF3, cF3, fF3, zF3⟩ := bF2.next hb3
      obtain ⟨bA3, cA3, fA3, zA3⟩ := bA2.next hb3
      obtain ⟨bW3, cW3, fW3, zW3⟩ := bW2.next hb3
      have B3 := below_call B2 hb3
      clear cF2 fF2 zF2 cA2 fA2 zA2 cW2 fW2 zW2
      go_wp2_with fail
      (with_reducible refine (num_8 _).mono ?_)
      rintro e w' ⟨rfl, rfl⟩
      go_wp2_with fail
      go_ret
      exact ⟨ret_bool (by simp), B3⟩
    · obtain ⟨k, rfl⟩ : ∃ k : Nat, n = k := ⟨n.toNat, by omega⟩
      have HD := Lib.hid (Div_yes b s x y k m h.1 (by omega) h.2.2.1 h.2.2.2 hy)
      have HR := Lib.hid (rDiv_yes b s x y k m h.1 (by omega) h.2.2.1 h.2.2.2 hy)
      generalize satV b (dvd (numF x y k) (denF y) m) = v1 at *
      generalize satB b (dvd (numF x y k) (denF y) m) = c1 at *
      clear h hy
      go_enter Try.func13, Try.ntmps13
      go_wp2_with fail
      (with_reducible refine (awake_any _).mono ?_)
      rintro e w1 ⟨rfl, hb1⟩
      obtain ⟨bF1, cF1, fF1, zF1⟩ := (((Blk.new w 23 #[.int .i64 b, .int .i64 s]).alloc _).alloc _).next hb1
      obtain ⟨bA1, cA1, fA1, zA1⟩ := ((Blk.new (w.alloc _) 43 #[.int .i64 x, .int .i64 y]).alloc _).next hb1
      obtain ⟨bW1, cW1, fW1, zW1⟩ := (Blk.new ((w.alloc _).alloc _) 28 #[.int .i64 (k : Int), .int .i64 m]).next hb1
      simp at bF1 cF1 fF1 zF1 bA1 cA1 fA1 zA1 bW1 cW1 fW1 zW1
      have B1 := below_call (below_box (below_box (below_box (Below.refl w.heap.size w) _) _) _) hb1
      go_wp2_with fail
      (with_reducible refine (HD.out _).mono ?_)
      rintro e w2 ⟨rfl, hb2⟩
      obtain ⟨bF2, cF2, fF2, zF2⟩ := bF1.next hb2
      obtain ⟨bA2, cA2, fA2, zA2⟩ := bA1.next hb2
      obtain ⟨bW2, cW2, fW2, zW2⟩ := bW1.next hb2
      have B2 := below_call B1 hb2
      clear cF1 fF1 zF1 cA1 fA1 zA1 cW1 fW1 zW1
      go_wp2_with fail
      (with_reducible refine (HR.out _).mono ?_)
      rintro e w3 ⟨rfl, hb3⟩
      obtain ⟨bF3, cF3, fF3, zF3⟩ := bF2.next hb3
      obtain ⟨bA3, cA3, fA3, zA3⟩ := bA2.next hb3
      obtain ⟨bW3, cW3, fW3, zW3⟩ := bW2.next hb3
      have B3 := below_call B2 hb3
      clear cF2 fF2 zF2 cA2 fA2 zA2 cW2 fW2 zW2
      go_wp2_with fail
      (with_reducible refine (num_nil _).mono ?_)
      rintro e w' ⟨rfl, rfl⟩
      go_wp2_with fail
      go_ret
      exact ⟨ret_bool (by simp), B3⟩
  · have HD := Lib.hid (Div_no b s x y n m h)
    have HR := Lib.hid (rDiv_no b s x y n m h)
    clear h
    go_enter Try.func13, Try.ntmps13
    go_wp2_with fail
    (with_reducible refine (awake_any _).mono ?_)
    rintro e w1 ⟨rfl, hb1⟩
    obtain ⟨bF1, cF1, fF1, zF1⟩ := (((Blk.new w 23 #[.int .i64 b, .int .i64 s]).alloc _).alloc _).next hb1
    obtain ⟨bA1, cA1, fA1, zA1⟩ := ((Blk.new (w.alloc _) 43 #[.int .i64 x, .int .i64 y]).alloc _).next hb1
    obtain ⟨bW1, cW1, fW1, zW1⟩ := (Blk.new ((w.alloc _).alloc _) 28 #[.int .i64 n, .int .i64 m]).next hb1
    simp at bF1 cF1 fF1 zF1 bA1 cA1 fA1 zA1 bW1 cW1 fW1 zW1
    have B1 := below_call (below_box (below_box (below_box (Below.refl w.heap.size w) _) _) _) hb1
    go_wp2_with fail
    (with_reducible refine (HD.out _).mono ?_)
    rintro e w2 ⟨rfl, hb2⟩
    obtain ⟨bF2, cF2, fF2, zF2⟩ := bF1.next hb2
    obtain ⟨bA2, cA2, fA2, zA2⟩ := bA1.next hb2
    obtain ⟨bW2, cW2, fW2, zW2⟩ := bW1.next hb2
    have B2 := below_call B1 hb2
    clear cF1 fF1 zF1 cA1 fA1 zA1 cW1 fW1 zW1
    go_wp2_with fail
    (with_reducible refine (HR.out _).mono ?_)
    rintro e w3 ⟨rfl, hb3⟩
    obtain ⟨bF3, cF3, fF3, zF3⟩ := bF2.next hb3
    obtain ⟨bA3, cA3, fA3, zA3⟩ := bA2.next hb3
    obtain ⟨bW3, cW3, fW3, zW3⟩ := bW2.next hb3
    have B3 := below_call B2 hb3
    clear cF2 fF2 zF2 cA2 fA2 zA2 cW2 fW2 zW2
    go_wp2_with fail
    (with_reducible refine (num_three _).mono ?_)
    rintro e w' ⟨rfl, rfl⟩
    go_wp2_with fail
    go_ret
    exact ⟨ret_bool (by simp), B3⟩

end Go.Proofs.Ythldpmfobhemkaa
