/- Chop, the program's and the reference's. -/
import Derived.Test.YtfopcmiphklcdaaAwake
namespace Go.Proofs.Ytfopcmiphklcdaa
open Go.RowKit

def chE (on off mo ri fa he : Int) : Int := if off < 0 ∨ on ≤ off ∨ 1048576 < on then 26 else if ri < 0 ∨ mo < ri ∨ 1073741824 < mo ∨ fa < 0 ∨ 1073741824 < fa ∨ he < 0 ∨ mo < he then 3 else 0
def chW (on off v : Int) (ac : Bool) (mo ri he : Int) : Bool := (decide (on ≤ v) || (ac && decide (off < v))) && decide (he + ri ≤ mo)
def chA (on off mo ri fa he v : Int) (ac : Bool) : Bool := if chE on off mo ri fa he = 0 then chW on off v ac mo ri he else false
def chH (on off mo ri fa he v : Int) (ac : Bool) : Int := if chE on off mo ri fa he = 0 then (if chW on off v ac mo ri he = true then he + ri else max 0 (he - fa)) else 0
theorem ch_cases (on off mo ri fa he : Int) : (chE on off mo ri fa he = 26 ∧ decide (off < 0) = true) ∨ (chE on off mo ri fa he = 26 ∧ decide (off < 0) = false ∧ decide (on ≤ off) = true) ∨ (chE on off mo ri fa he = 26 ∧ decide (off < 0) = false ∧ decide (on ≤ off) = false ∧ decide (1048576 < on) = true) ∨ (chE on off mo ri fa he = 3 ∧ decide (off < 0) = false ∧ decide (on ≤ off) = false ∧ decide (1048576 < on) = false ∧ decide (ri < 0) = true) ∨ (chE on off mo ri fa he = 3 ∧ decide (off < 0) = false ∧ decide (on ≤ off) = false ∧ decide (1048576 < on) = false ∧ decide (ri < 0) = false ∧ decide (mo < ri) = true) ∨ (chE on off mo ri fa he = 3 ∧ decide (off < 0) = false ∧ decide (on ≤ off) = false ∧ decide (1048576 < on) = false ∧ decide (ri < 0) = false ∧ decide (mo < ri) = false ∧ decide (1073741824 < mo) = true) ∨ (chE on off mo ri fa he = 3 ∧ decide (off < 0) = false ∧ decide (on ≤ off) = false ∧ decide (1048576 < on) = false ∧ decide (ri < 0) = false ∧ decide (mo < ri) = false ∧ decide (1073741824 < mo) = false ∧ decide (fa < 0) = true) ∨ (chE on off mo ri fa he = 3 ∧ decide (off < 0) = false ∧ decide (on ≤ off) = false ∧ decide (1048576 < on) = false ∧ decide (ri < 0) = false ∧ decide (mo < ri) = false ∧ decide (1073741824 < mo) = false ∧ decide (fa < 0) = false ∧ decide (1073741824 < fa) = true) ∨ (chE on off mo ri fa he = 3 ∧ decide (off < 0) = false ∧ decide (on ≤ off) = false ∧ decide (1048576 < on) = false ∧ decide (ri < 0) = false ∧ decide (mo < ri) = false ∧ decide (1073741824 < mo) = false ∧ decide (fa < 0) = false ∧ decide (1073741824 < fa) = false ∧ decide (he < 0) = true) ∨ (chE on off mo ri fa he = 3 ∧ decide (off < 0) = false ∧ decide (on ≤ off) = false ∧ decide (1048576 < on) = false ∧ decide (ri < 0) = false ∧ decide (mo < ri) = false ∧ decide (1073741824 < mo) = false ∧ decide (fa < 0) = false ∧ decide (1073741824 < fa) = false ∧ decide (he < 0) = false ∧ decide (mo < he) = true) ∨ (chE on off mo ri fa he = 0 ∧ decide (off < 0) = false ∧ decide (on ≤ off) = false ∧ decide (1048576 < on) = false ∧ decide (ri < 0) = false ∧ decide (mo < ri) = false ∧ decide (1073741824 < mo) = false ∧ decide (fa < 0) = false ∧ decide (1073741824 < fa) = false ∧ decide (he < 0) = false ∧ decide (mo < he) = false) := by
  by_cases h0 : off < 0
  · refine .inl ⟨?_, decide_eq_true h0⟩
    unfold chE
    rw [if_pos (by omega)]
  by_cases h1 : on ≤ off
  · refine .inr (.inl ⟨?_, decide_eq_false h0, decide_eq_true h1⟩)
    unfold chE
    rw [if_pos (by omega)]
  by_cases h2 : 1048576 < on
  · refine .inr (.inr (.inl ⟨?_, decide_eq_false h0, decide_eq_false h1, decide_eq_true h2⟩))
    unfold chE
    rw [if_pos (by omega)]
  by_cases h3 : ri < 0
  · refine .inr (.inr (.inr (.inl ⟨?_, decide_eq_false h0, decide_eq_false h1, decide_eq_false h2, decide_eq_true h3⟩)))
    unfold chE
    rw [if_neg (by omega), if_pos (by omega)]
  by_cases h4 : mo < ri
  · refine .inr (.inr (.inr (.inr (.inl ⟨?_, decide_eq_false h0, decide_eq_false h1, decide_eq_false h2, decide_eq_false h3, decide_eq_true h4⟩))))
    unfold chE
    rw [if_neg (by omega), if_pos (by omega)]
  by_cases h5 : 1073741824 < mo
  · refine .inr (.inr (.inr (.inr (.inr (.inl ⟨?_, decide_eq_false h0, decide_eq_false h1, decide_eq_false h2, decide_eq_false h3, decide_eq_false h4, decide_eq_true h5⟩)))))
    unfold chE
    rw [if_neg (by omega), if_pos (by omega)]
  by_cases h6 : fa < 0
  · refine .inr (.inr (.inr (.inr (.inr (.inr (.inl ⟨?_, decide_eq_false h0, decide_eq_false h1, decide_eq_false h2, decide_eq_false h3, decide_eq_false h4, decide_eq_false h5, decide_eq_true h6⟩))))))
    unfold chE
    rw [if_neg (by omega), if_pos (by omega)]
  by_cases h7 : 1073741824 < fa
  · refine .inr (.inr (.inr (.inr (.inr (.inr (.inr (.inl ⟨?_, decide_eq_false h0, decide_eq_false h1, decide_eq_false h2, decide_eq_false h3, decide_eq_false h4, decide_eq_false h5, decide_eq_false h6, decide_eq_true h7⟩)))))))
    unfold chE
    rw [if_neg (by omega), if_pos (by omega)]
  by_cases h8 : he < 0
  · refine .inr (.inr (.inr (.inr (.inr (.inr (.inr (.inr (.inl ⟨?_, decide_eq_false h0, decide_eq_false h1, decide_eq_false h2, decide_eq_false h3, decide_eq_false h4, decide_eq_false h5, decide_eq_false h6, decide_eq_false h7, decide_eq_true h8⟩))))))))
    unfold chE
    rw [if_neg (by omega), if_pos (by omega)]
  by_cases h9 : mo < he
  · refine .inr (.inr (.inr (.inr (.inr (.inr (.inr (.inr (.inr (.inl ⟨?_, decide_eq_false h0, decide_eq_false h1, decide_eq_false h2, decide_eq_false h3, decide_eq_false h4, decide_eq_false h5, decide_eq_false h6, decide_eq_false h7, decide_eq_false h8, decide_eq_true h9⟩)))))))))
    unfold chE
    rw [if_neg (by omega), if_pos (by omega)]
  refine .inr (.inr (.inr (.inr (.inr (.inr (.inr (.inr (.inr (.inr (⟨?_, decide_eq_false h0, decide_eq_false h1, decide_eq_false h2, decide_eq_false h3, decide_eq_false h4, decide_eq_false h5, decide_eq_false h6, decide_eq_false h7, decide_eq_false h8, decide_eq_false h9⟩))))))))))
  unfold chE
  rw [if_neg (by omega), if_neg (by omega)]
theorem ch_ok {on off mo ri fa he : Int} (h : chE on off mo ri fa he = 0) : (0 ≤ off ∧ off < on ∧ on ≤ 1048576) ∧ (0 ≤ ri ∧ ri ≤ mo ∧ mo ≤ 1073741824) ∧ (0 ≤ fa ∧ fa ≤ 1073741824) ∧ 0 ≤ he ∧ he ≤ mo := by
  unfold chE at h
  split at h
  · omega
  · split at h
    · omega
    · omega

set_option maxHeartbeats 8000000 in
theorem Chop_any (on off mo ri fa he v : Int) (ac : Bool) (w : World) : Calls Try.prog 20 #[.agg #[.int .i64 on, .int .i64 off, .int .i64 mo, .int .i64 ri, .int .i64 fa], .agg #[.bool ac, .int .i64 he], .int .i64 v] w fun e w' => e = .returned (.tuple #[.agg #[.bool (chA on off mo ri fa he v ac), .int .i64 (chH on off mo ri fa he v ac)], errV (chE on off mo ri fa he)]) ∧ Below w.heap.size w w' := by
  unfold chA chH
  rcases ch_cases on off mo ri fa he with ⟨he0, t0⟩ | ⟨he0, t0, t1⟩ | ⟨he0, t0, t1, t2⟩ | ⟨he0, t0, t1, t2, t3⟩ | ⟨he0, t0, t1, t2, t3, t4⟩ | ⟨he0, t0, t1, t2, t3, t4, t5⟩ | ⟨he0, t0, t1, t2, t3, t4, t5, t6⟩ | ⟨he0, t0, t1, t2, t3, t4, t5, t6, t7⟩ | ⟨he0, t0, t1, t2, t3, t4, t5, t6, t7, t8⟩ | ⟨he0, t0, t1, t2, t3, t4, t5, t6, t7, t8, t9⟩ | ⟨he0, t0, t1, t2, t3, t4, t5, t6, t7, t8, t9⟩
  · rw [he0, if_neg (by decide), if_neg (by decide)]
    rw [errV_pos (by decide)]
    clear he0
    go_enter Try.func20, Try.ntmps20
    go_wp2_with fail
    refine bodyPost_ret (v := .tuple #[.agg #[.bool false, .int .i64 0], .iface 66 (.int .i64 26)]) ?_ rfl ⟨rfl, below_box (below_box (below_box (Below.refl w.heap.size w) (.cells #[.int .i64 on, .int .i64 off, .int .i64 mo, .int .i64 ri, .int .i64 fa] 42)) (.cells #[.bool ac, .int .i64 he] 44)) _⟩
    simp [results, Try.results20, go_sem]
  · rw [he0, if_neg (by decide), if_neg (by decide)]
    rw [errV_pos (by decide)]
    clear he0
    go_enter Try.func20, Try.ntmps20
    go_wp2_with fail
    refine bodyPost_ret (v := .tuple #[.agg #[.bool false, .int .i64 0], .iface 66 (.int .i64 26)]) ?_ rfl ⟨rfl, below_box (below_box (below_box (Below.refl w.heap.size w) (.cells #[.int .i64 on, .int .i64 off, .int .i64 mo, .int .i64 ri, .int .i64 fa] 42)) (.cells #[.bool ac, .int .i64 he] 44)) _⟩
    simp [results, Try.results20, go_sem]
  · rw [he0, if_neg (by decide), if_neg (by decide)]
    rw [errV_pos (by decide)]
    clear he0
    go_enter Try.func20, Try.ntmps20
    go_wp2_with fail
    refine bodyPost_ret (v := .tuple #[.agg #[.bool false, .int .i64 0], .iface 66 (.int .i64 26)]) ?_ rfl ⟨rfl, below_box (below_box (below_box (Below.refl w.heap.size w) (.cells #[.int .i64 on, .int .i64 off, .int .i64 mo, .int .i64 ri, .int .i64 fa] 42)) (.cells #[.bool ac, .int .i64 he] 44)) _⟩
    simp [results, Try.results20, go_sem]
  · rw [he0, if_neg (by decide), if_neg (by decide)]
    rw [errV_pos (by decide)]
    clear he0
    go_enter Try.func20, Try.ntmps20
    go_wp2_with fail
    refine bodyPost_ret (v := .tuple #[.agg #[.bool false, .int .i64 0], .iface 66 (.int .i64 3)]) ?_ rfl ⟨rfl, below_box (below_box (below_box (Below.refl w.heap.size w) (.cells #[.int .i64 on, .int .i64 off, .int .i64 mo, .int .i64 ri, .int .i64 fa] 42)) (.cells #[.bool ac, .int .i64 he] 44)) _⟩
    simp [results, Try.results20, go_sem]
  · rw [he0, if_neg (by decide), if_neg (by decide)]
    rw [errV_pos (by decide)]
    clear he0
    go_enter Try.func20, Try.ntmps20
    go_wp2_with fail
    refine bodyPost_ret (v := .tuple #[.agg #[.bool false, .int .i64 0], .iface 66 (.int .i64 3)]) ?_ rfl ⟨rfl, below_box (below_box (below_box (Below.refl w.heap.size w) (.cells #[.int .i64 on, .int .i64 off, .int .i64 mo, .int .i64 ri, .int .i64 fa] 42)) (.cells #[.bool ac, .int .i64 he] 44)) _⟩
    simp [results, Try.results20, go_sem]
  · rw [he0, if_neg (by decide), if_neg (by decide)]
    rw [errV_pos (by decide)]
    clear he0
    go_enter Try.func20, Try.ntmps20
    go_wp2_with fail
    refine bodyPost_ret (v := .tuple #[.agg #[.bool false, .int .i64 0], .iface 66 (.int .i64 3)]) ?_ rfl ⟨rfl, below_box (below_box (below_box (Below.refl w.heap.size w) (.cells #[.int .i64 on, .int .i64 off, .int .i64 mo, .int .i64 ri, .int .i64 fa] 42)) (.cells #[.bool ac, .int .i64 he] 44)) _⟩
    simp [results, Try.results20, go_sem]
  · rw [he0, if_neg (by decide), if_neg (by decide)]
    rw [errV_pos (by decide)]
    clear he0
    go_enter Try.func20, Try.ntmps20
    go_wp2_with fail
    refine bodyPost_ret (v := .tuple #[.agg #[.bool false, .int .i64 0], .iface 66 (.int .i64 3)]) ?_ rfl ⟨rfl, below_box (below_box (below_box (Below.refl w.heap.size w) (.cells #[.int .i64 on, .int .i64 off, .int .i64 mo, .int .i64 ri, .int .i64 fa] 42)) (.cells #[.bool ac, .int .i64 he] 44)) _⟩
    simp [results, Try.results20, go_sem]
  · rw [he0, if_neg (by decide), if_neg (by decide)]
    rw [errV_pos (by decide)]
    clear he0
    go_enter Try.func20, Try.ntmps20
    go_wp2_with fail
    refine bodyPost_ret (v := .tuple #[.agg #[.bool false, .int .i64 0], .iface 66 (.int .i64 3)]) ?_ rfl ⟨rfl, below_box (below_box (below_box (Below.refl w.heap.size w) (.cells #[.int .i64 on, .int .i64 off, .int .i64 mo, .int .i64 ri, .int .i64 fa] 42)) (.cells #[.bool ac, .int .i64 he] 44)) _⟩
    simp [results, Try.results20, go_sem]
  · rw [he0, if_neg (by decide), if_neg (by decide)]
    rw [errV_pos (by decide)]
    clear he0
    go_enter Try.func20, Try.ntmps20
    go_wp2_with fail
    refine bodyPost_ret (v := .tuple #[.agg #[.bool false, .int .i64 0], .iface 66 (.int .i64 3)]) ?_ rfl ⟨rfl, below_box (below_box (below_box (Below.refl w.heap.size w) (.cells #[.int .i64 on, .int .i64 off, .int .i64 mo, .int .i64 ri, .int .i64 fa] 42)) (.cells #[.bool ac, .int .i64 he] 44)) _⟩
    simp [results, Try.results20, go_sem]
  · rw [he0, if_neg (by decide), if_neg (by decide)]
    rw [errV_pos (by decide)]
    clear he0
    go_enter Try.func20, Try.ntmps20
    go_wp2_with fail
    refine bodyPost_ret (v := .tuple #[.agg #[.bool false, .int .i64 0], .iface 66 (.int .i64 3)]) ?_ rfl ⟨rfl, below_box (below_box (below_box (Below.refl w.heap.size w) (.cells #[.int .i64 on, .int .i64 off, .int .i64 mo, .int .i64 ri, .int .i64 fa] 42)) (.cells #[.bool ac, .int .i64 he] 44)) _⟩
    simp [results, Try.results20, go_sem]
  · have b := ch_ok he0
    rw [he0, if_pos rfl, if_pos rfl]
    rw [errV_zero]
    clear he0
    unfold chW
    have v1 : IntKind.i64.wrap (he + ri) = he + ri := IntWalk.i64_in _ (by omega)
    have v2 : IntKind.i64.wrap (he - fa) = he - fa := IntWalk.i64_in _ (by omega)
    clear b
    obtain ⟨p, hp⟩ : ∃ p, decide (on ≤ v) = p := ⟨_, rfl⟩
    obtain ⟨q, hq⟩ : ∃ q, decide (off < v) = q := ⟨_, rfl⟩
    obtain ⟨r, hr⟩ : ∃ r, decide (he + ri ≤ mo) = r := ⟨_, rfl⟩
    rw [hp, hq, hr]
    cases p
    all_goals cases ac
    all_goals cases q
    all_goals cases r
    all_goals simp only [Bool.or_true, Bool.or_false, Bool.and_true, Bool.and_false, Bool.false_eq_true, ↓reduceIte]
    all_goals
      go_enter Try.func20, Try.ntmps20
      go_wp2_with fail
      first
        | (refine bodyPost_ret (v := .tuple #[.agg #[.bool true, .int .i64 (he + ri)], .nilIface]) ?_ rfl ⟨rfl, below_box (below_box (below_box (Below.refl w.heap.size w) _) _) _⟩; simp [results, Try.results20, go_sem]; done)
        | (refine bodyPost_ret (v := .tuple #[.agg #[.bool false, .int .i64 (max 0 (he - fa))], .nilIface]) ?_ rfl ⟨rfl, below_box (below_box (below_box (Below.refl w.heap.size w) _) _) _⟩; simp [results, Try.results20, go_sem]; done)

end Go.Proofs.Ytfopcmiphklcdaa
