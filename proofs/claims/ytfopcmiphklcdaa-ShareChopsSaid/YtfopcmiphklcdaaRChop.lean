/- The reference's Chop. -/
import Derived.Test.YtfopcmiphklcdaaChop
namespace Go.Proofs.Ytfopcmiphklcdaa
open Go.RowKit


set_option maxHeartbeats 8000000 in
theorem rChop_any (on off mo ri fa he v : Int) (ac : Bool) (w : World) : Calls Try.prog 21 #[.agg #[.int .i64 on, .int .i64 off, .int .i64 mo, .int .i64 ri, .int .i64 fa], .agg #[.bool ac, .int .i64 he], .int .i64 v] w fun e w' => e = .returned (.tuple #[.agg #[.bool (chA on off mo ri fa he v ac), .int .i64 (chH on off mo ri fa he v ac)], .int .i64 (chE on off mo ri fa he)]) ∧ Below w.heap.size w w' := by
  unfold chA chH
  rcases ch_cases on off mo ri fa he with ⟨he0, t0⟩ | ⟨he0, t0, t1⟩ | ⟨he0, t0, t1, t2⟩ | ⟨he0, t0, t1, t2, t3⟩ | ⟨he0, t0, t1, t2, t3, t4⟩ | ⟨he0, t0, t1, t2, t3, t4, t5⟩ | ⟨he0, t0, t1, t2, t3, t4, t5, t6⟩ | ⟨he0, t0, t1, t2, t3, t4, t5, t6, t7⟩ | ⟨he0, t0, t1, t2, t3, t4, t5, t6, t7, t8⟩ | ⟨he0, t0, t1, t2, t3, t4, t5, t6, t7, t8, t9⟩ | ⟨he0, t0, t1, t2, t3, t4, t5, t6, t7, t8, t9⟩
  · rw [he0, if_neg (by decide), if_neg (by decide)]
    clear he0
    go_enter Try.func21, Try.ntmps21
    go_wp2_with fail
    refine bodyPost_ret (v := .tuple #[.agg #[.bool false, .int .i64 0], .int .i64 26]) ?_ rfl ⟨rfl, below_box (below_box (below_box (Below.refl w.heap.size w) (.cells #[.int .i64 on, .int .i64 off, .int .i64 mo, .int .i64 ri, .int .i64 fa] 42)) (.cells #[.bool ac, .int .i64 he] 44)) _⟩
    simp [results, Try.results21, go_sem]
  · rw [he0, if_neg (by decide), if_neg (by decide)]
    clear he0
    go_enter Try.func21, Try.ntmps21
    go_wp2_with fail
    refine bodyPost_ret (v := .tuple #[.agg #[.bool false, .int .i64 0], .int .i64 26]) ?_ rfl ⟨rfl, below_box (below_box (below_box (Below.refl w.heap.size w) (.cells #[.int .i64 on, .int .i64 off, .int .i64 mo, .int .i64 ri, .int .i64 fa] 42)) (.cells #[.bool ac, .int .i64 he] 44)) _⟩
    simp [results, Try.results21, go_sem]
  · rw [he0, if_neg (by decide), if_neg (by decide)]
    clear he0
    go_enter Try.func21, Try.ntmps21
    go_wp2_with fail
    refine bodyPost_ret (v := .tuple #[.agg #[.bool false, .int .i64 0], .int .i64 26]) ?_ rfl ⟨rfl, below_box (below_box (below_box (Below.refl w.heap.size w) (.cells #[.int .i64 on, .int .i64 off, .int .i64 mo, .int .i64 ri, .int .i64 fa] 42)) (.cells #[.bool ac, .int .i64 he] 44)) _⟩
    simp [results, Try.results21, go_sem]
  · rw [he0, if_neg (by decide), if_neg (by decide)]
    clear he0
    go_enter Try.func21, Try.ntmps21
    go_wp2_with fail
    refine bodyPost_ret (v := .tuple #[.agg #[.bool false, .int .i64 0], .int .i64 3]) ?_ rfl ⟨rfl, below_box (below_box (below_box (Below.refl w.heap.size w) (.cells #[.int .i64 on, .int .i64 off, .int .i64 mo, .int .i64 ri, .int .i64 fa] 42)) (.cells #[.bool ac, .int .i64 he] 44)) _⟩
    simp [results, Try.results21, go_sem]
  · rw [he0, if_neg (by decide), if_neg (by decide)]
    clear he0
    go_enter Try.func21, Try.ntmps21
    go_wp2_with fail
    refine bodyPost_ret (v := .tuple #[.agg #[.bool false, .int .i64 0], .int .i64 3]) ?_ rfl ⟨rfl, below_box (below_box (below_box (Below.refl w.heap.size w) (.cells #[.int .i64 on, .int .i64 off, .int .i64 mo, .int .i64 ri, .int .i64 fa] 42)) (.cells #[.bool ac, .int .i64 he] 44)) _⟩
    simp [results, Try.results21, go_sem]
  · rw [he0, if_neg (by decide), if_neg (by decide)]
    clear he0
    go_enter Try.func21, Try.ntmps21
    go_wp2_with fail
    refine bodyPost_ret (v := .tuple #[.agg #[.bool false, .int .i64 0], .int .i64 3]) ?_ rfl ⟨rfl, below_box (below_box (below_box (Below.refl w.heap.size w) (.cells #[.int .i64 on, .int .i64 off, .int .i64 mo, .int .i64 ri, .int .i64 fa] 42)) (.cells #[.bool ac, .int .i64 he] 44)) _⟩
    simp [results, Try.results21, go_sem]
  · rw [he0, if_neg (by decide), if_neg (by decide)]
    clear he0
    have WA := within_any fa 0 1073741824
    rw [show (decide (0 ≤ fa) && decide (fa ≤ 1073741824)) = false by simp at *; omega] at WA
    replace WA := Lib.hid WA
    clear t6
    go_enter Try.func21, Try.ntmps21
    go_wp2_with fail
    (with_reducible refine (WA.out _).mono ?_)
    rintro e w' ⟨rfl, rfl⟩
    go_wp2_with fail
    refine bodyPost_ret (v := .tuple #[.agg #[.bool false, .int .i64 0], .int .i64 3]) ?_ rfl ⟨rfl, below_box (below_box (below_box (Below.refl w.heap.size w) (.cells #[.int .i64 on, .int .i64 off, .int .i64 mo, .int .i64 ri, .int .i64 fa] 42)) (.cells #[.bool ac, .int .i64 he] 44)) _⟩
    simp [results, Try.results21, go_sem]
  · rw [he0, if_neg (by decide), if_neg (by decide)]
    clear he0
    have WA := within_any fa 0 1073741824
    rw [show (decide (0 ≤ fa) && decide (fa ≤ 1073741824)) = false by simp at *; omega] at WA
    replace WA := Lib.hid WA
    clear t6 t7
    go_enter Try.func21, Try.ntmps21
    go_wp2_with fail
    (with_reducible refine (WA.out _).mono ?_)
    rintro e w' ⟨rfl, rfl⟩
    go_wp2_with fail
    refine bodyPost_ret (v := .tuple #[.agg #[.bool false, .int .i64 0], .int .i64 3]) ?_ rfl ⟨rfl, below_box (below_box (below_box (Below.refl w.heap.size w) (.cells #[.int .i64 on, .int .i64 off, .int .i64 mo, .int .i64 ri, .int .i64 fa] 42)) (.cells #[.bool ac, .int .i64 he] 44)) _⟩
    simp [results, Try.results21, go_sem]
  · rw [he0, if_neg (by decide), if_neg (by decide)]
    clear he0
    have WA := within_any fa 0 1073741824
    rw [show (decide (0 ≤ fa) && decide (fa ≤ 1073741824)) = true by simp at *; omega] at WA
    replace WA := Lib.hid WA
    have WB := within_any he 0 mo
    rw [show (decide (0 ≤ he) && decide (he ≤ mo)) = false by simp at *; omega] at WB
    replace WB := Lib.hid WB
    clear t6 t7 t8
    go_enter Try.func21, Try.ntmps21
    go_wp2_with fail
    (with_reducible refine (WA.out _).mono ?_)
    rintro e w' ⟨rfl, rfl⟩
    go_wp2_with fail
    (with_reducible refine (WB.out _).mono ?_)
    rintro e w' ⟨rfl, rfl⟩
    go_wp2_with fail
    refine bodyPost_ret (v := .tuple #[.agg #[.bool false, .int .i64 0], .int .i64 3]) ?_ rfl ⟨rfl, below_box (below_box (below_box (Below.refl w.heap.size w) (.cells #[.int .i64 on, .int .i64 off, .int .i64 mo, .int .i64 ri, .int .i64 fa] 42)) (.cells #[.bool ac, .int .i64 he] 44)) _⟩
    simp [results, Try.results21, go_sem]
  · rw [he0, if_neg (by decide), if_neg (by decide)]
    clear he0
    have WA := within_any fa 0 1073741824
    rw [show (decide (0 ≤ fa) && decide (fa ≤ 1073741824)) = true by simp at *; omega] at WA
    replace WA := Lib.hid WA
    have WB := within_any he 0 mo
    rw [show (decide (0 ≤ he) && decide (he ≤ mo)) = false by simp at *; omega] at WB
    replace WB := Lib.hid WB
    clear t6 t7 t8 t9
    go_enter Try.func21, Try.ntmps21
    go_wp2_with fail
    (with_reducible refine (WA.out _).mono ?_)
    rintro e w' ⟨rfl, rfl⟩
    go_wp2_with fail
    (with_reducible refine (WB.out _).mono ?_)
    rintro e w' ⟨rfl, rfl⟩
    go_wp2_with fail
    refine bodyPost_ret (v := .tuple #[.agg #[.bool false, .int .i64 0], .int .i64 3]) ?_ rfl ⟨rfl, below_box (below_box (below_box (Below.refl w.heap.size w) (.cells #[.int .i64 on, .int .i64 off, .int .i64 mo, .int .i64 ri, .int .i64 fa] 42)) (.cells #[.bool ac, .int .i64 he] 44)) _⟩
    simp [results, Try.results21, go_sem]
  · have b := ch_ok he0
    rw [he0, if_pos rfl, if_pos rfl]
    clear he0
    unfold chW
    rw [Int.max_comm]
    have WA := within_any fa 0 1073741824
    rw [show (decide (0 ≤ fa) && decide (fa ≤ 1073741824)) = true by simp; omega] at WA
    replace WA := Lib.hid WA
    have WB := within_any he 0 mo
    rw [show (decide (0 ≤ he) && decide (he ≤ mo)) = true by simp; omega] at WB
    replace WB := Lib.hid WB
    clear t6 t7 t8 t9
    have v1 : IntKind.i64.wrap (he + ri) = he + ri := IntWalk.i64_in _ (by omega)
    have v2 : IntKind.i64.wrap (he - fa) = he - fa := IntWalk.i64_in _ (by omega)
    clear b
    obtain ⟨p, hp⟩ : ∃ p, decide (on ≤ v) = p := ⟨_, rfl⟩
    obtain ⟨q, hq⟩ : ∃ q, decide (off < v) = q := ⟨_, rfl⟩
    obtain ⟨r, hr⟩ : ∃ r, decide (he + ri ≤ mo) = r := ⟨_, rfl⟩
    rw [hp, hq, hr]
    cases p
    all_goals cases ac
    all_goals cases q
    all_goals cases r
    all_goals simp only [Bool.or_true, Bool.or_false, Bool.and_true, Bool.and_false, Bool.false_eq_true, ↓reduceIte]
    all_goals
      go_enter Try.func21, Try.ntmps21
      go_wp2_with fail
      (with_reducible refine (WA.out _).mono ?_)
      rintro e w' ⟨rfl, rfl⟩
      go_wp2_with fail
      (with_reducible refine (WB.out _).mono ?_)
      rintro e w' ⟨rfl, rfl⟩
      go_wp2_with fail
      first
        | (refine bodyPost_ret (v := .tuple #[.agg #[.bool true, .int .i64 (he + ri)], .int .i64 0]) ?_ rfl ⟨rfl, below_box (below_box (below_box (Below.refl w.heap.size w) _) _) _⟩; simp [results, Try.results21, go_sem]; done)
        | (refine bodyPost_ret (v := .tuple #[.agg #[.bool false, .int .i64 (max (he - fa) 0)], .int .i64 0]) ?_ rfl ⟨rfl, below_box (below_box (below_box (Below.refl w.heap.size w) _) _) _⟩; simp [results, Try.results21, go_sem]; done)

end Go.Proofs.Ytfopcmiphklcdaa
