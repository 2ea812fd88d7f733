/- The walks of WordConverts and WordBack. -/
import Derived.Test.YthldpmfobhemkaaLaw8
namespace Go.Proofs.Ythldpmfobhemkaa
open Go.RowKit

theorem rnd_back (x : Int) (k : Nat) (m : Int) : rnd (x * 2 ^ k) k m = x := by
  have hp := p2 k
  unfold rnd
  rw [Int.mul_ediv_cancel _ (by omega), Int.mul_emod_left]
  rw [if_neg]
  intro h
  rw [up_iff] at h
  omega
theorem sat_word {b x : Int} (h : isW b x = true) : satV b x = x ∧ satB b x = false := by
  rw [isW_iff] at h
  have e : satV b x = x := by unfold satV; omega
  refine ⟨e, ?_⟩
  unfold satB
  rw [e]
  simp
theorem sat_of {b z : Int} (h : satB b z = false) : satV b z = z := by
  unfold satB at h
  simpa using h
theorem word_of {b z : Int} (hb : 2 ≤ b) (hb2 : b ≤ 32) (h : satB b z = false) : isW b z = true := by
  have e := sat_of h
  have := halfF_le hb hb2
  rw [isW_iff]
  unfold satV at e
  omega
/-- There and back. -/
theorem cnv_back {s c t x m : Int} (h2 : okF c t) (hst : s ≤ t) (hc : satB c (cnv s t x m) = false) : cnv t s (satV c (cnv s t x m)) m = x := by
  have hz := word_of h2.1 h2.2.1 hc
  rw [sat_of hc]
  have hz2 := isW_le h2.1 h2.2.1 hz
  have e1 : cnv s t x m = x * 2 ^ (min (t - s) 32).toNat := by
    unfold cnv
    split
    · have : s = t := by omega
      subst this
      rw [show (min (s - s) 62).toNat = 0 by omega, show (min (s - s) 32).toNat = 0 by omega, rnd_zero]
      simp
    · rfl
  rw [e1] at hz2 ⊢
  unfold cnv
  rw [if_pos hst]
  by_cases h3 : t - s ≤ 32
  · rw [show (min (t - s) 62).toNat = (min (t - s) 32).toNat by omega]
    exact rnd_back _ _ _
  · have e32 : (min (t - s) 32).toNat = 32 := by omega
    rw [e32] at hz2 ⊢
    have e : (2 : Int) ^ 32 = 4294967296 := by decide
    rw [e] at hz2
    have x0 : x = 0 := by omega
    subst x0
    rw [Int.zero_mul]
    have := rnd_back 0 (min (t - s) 62).toNat m
    rwa [Int.zero_mul] at this

set_option maxHeartbeats 2000000 in
theorem converts_any (b s c t x m : Int)  (w : World) : Calls Try.prog 11 #[.agg #[.int .i64 b, .int .i64 s, .int .i64 c, .int .i64 t], .int .i64 x, .int .i64 m] w fun e w' => e = .returned (.bool true) ∧ Below w.heap.size w w' := by
  by_cases h : okF b s ∧ okF c t ∧ isW b x = true ∧ 0 ≤ m ∧ m ≤ 3
  · have H1 := Lib.hid (Convert_yes b s c t x m h.1 h.2.1 h.2.2.1 h.2.2.2.1 h.2.2.2.2)
    have H2 := Lib.hid (rConvert_yes b s c t x m h.1 h.2.1 h.2.2.1 h.2.2.2.1 h.2.2.2.2)
    generalize satV c (cnv s t x m) = v at *
    generalize satB c (cnv s t x m) = u at *
    clear h
    go_enter Try.func11, Try.ntmps11
    go_wp2_with fail
    (with_reducible refine (awake_any _).mono ?_)
    rintro e w1 ⟨rfl, hb1⟩
    obtain ⟨bP1, cP1, fP1, zP1⟩ := (Blk.new (w) 63 #[.int .i64 b, .int .i64 s, .int .i64 c, .int .i64 t]).next hb1
    try simp at bP1 cP1 fP1 zP1
    have B1 := below_call (below_box (Below.refl w.heap.size w) _) hb1
    go_wp2_with fail
    (with_reducible refine (H1.out _).mono ?_)
    rintro e w2 ⟨rfl, hb2⟩
    obtain ⟨bP2, cP2, fP2, zP2⟩ := (bP1).next hb2
    try simp at bP2 cP2 fP2 zP2
    have B2 := below_call (B1) hb2
    clear cP1 fP1 zP1
    go_wp2_with fail
    (with_reducible refine (H2.out _).mono ?_)
    rintro e w3 ⟨rfl, hb3⟩
    obtain ⟨bP3, cP3, fP3, zP3⟩ := (bP2).next hb3
    try simp at bP3 cP3 fP3 zP3
    have B3 := below_call (B2) hb3
    clear cP2 fP2 zP2
    go_wp2_with fail
    (with_reducible refine (num_nil _).mono ?_)
    rintro e w' ⟨rfl, rfl⟩
    go_wp2_with fail
    go_ret
    exact ⟨ret_bool (by simp), B3⟩
  · have H1 := Lib.hid (Convert_no b s c t x m h)
    have H2 := Lib.hid (rConvert_no b s c t x m h)
    clear h
    go_enter Try.func11, Try.ntmps11
    go_wp2_with fail
    (with_reducible refine (awake_any _).mono ?_)
    rintro e w1 ⟨rfl, hb1⟩
    obtain ⟨bP1, cP1, fP1, zP1⟩ := (Blk.new (w) 63 #[.int .i64 b, .int .i64 s, .int .i64 c, .int .i64 t]).next hb1
    try simp at bP1 cP1 fP1 zP1
    have B1 := below_call (below_box (Below.refl w.heap.size w) _) hb1
    go_wp2_with fail
    (with_reducible refine (H1.out _).mono ?_)
    rintro e w2 ⟨rfl, hb2⟩
    obtain ⟨bP2, cP2, fP2, zP2⟩ := (bP1).next hb2
    try simp at bP2 cP2 fP2 zP2
    have B2 := below_call (B1) hb2
    clear cP1 fP1 zP1
    go_wp2_with fail
    (with_reducible refine (H2.out _).mono ?_)
    rintro e w3 ⟨rfl, hb3⟩
    obtain ⟨bP3, cP3, fP3, zP3⟩ := (bP2).next hb3
    try simp at bP3 cP3 fP3 zP3
    have B3 := below_call (B2) hb3
    clear cP2 fP2 zP2
    go_wp2_with fail
    (with_reducible refine (num_three _).mono ?_)
    rintro e w' ⟨rfl, rfl⟩
    go_wp2_with fail
    go_ret
    exact ⟨ret_bool (by simp), B3⟩

set_option maxHeartbeats 2000000 in
theorem back_any (b s c t x m : Int)  (w : World) : Calls Try.prog 12 #[.agg #[.int .i64 b, .int .i64 s, .int .i64 c, .int .i64 t], .int .i64 x, .int .i64 m] w fun e w' => e = .returned (.bool true) ∧ Below w.heap.size w w' := by
  by_cases hst : t < s
  · have g1 : decide (t < s) = true := decide_eq_true hst
    go_enter Try.func12, Try.ntmps12
    go_wp2_with fail
    (with_reducible refine (awake_any _).mono ?_)
    rintro e w1 ⟨rfl, hb1⟩
    obtain ⟨bP1, cP1, fP1, zP1⟩ := (Blk.new (w) 63 #[.int .i64 b, .int .i64 s, .int .i64 c, .int .i64 t]).next hb1
    try simp at bP1 cP1 fP1 zP1
    have B1 := below_call (below_box (Below.refl w.heap.size w) _) hb1
    go_wp2_with fail
    (with_reducible refine (awake_any _).mono ?_)
    rintro e w2 ⟨rfl, hb2⟩
    obtain ⟨bP2, cP2, fP2, zP2⟩ := (bP1).next hb2
    try simp at bP2 cP2 fP2 zP2
    have B2 := below_call (B1) hb2
    clear cP1 fP1 zP1
    go_wp2_with fail
    go_ret
    exact ⟨rfl, B2⟩
  · have g1 : decide (t < s) = false := decide_eq_false hst
    by_cases h : okF b s ∧ okF c t ∧ isW b x = true ∧ 0 ≤ m ∧ m ≤ 3
    · have H1 := Convert_yes b s c t x m h.1 h.2.1 h.2.2.1 h.2.2.2.1 h.2.2.2.2
      cases hu : satB c (cnv s t x m)
      · have ey := cnv_back (m := m) h.2.1 (by omega) hu
        have H2 := Convert_yes c t b s (satV c (cnv s t x m)) m h.2.1 h.1 (by rw [sat_of hu]; exact word_of h.2.1.1 h.2.1.2.1 hu) h.2.2.2.1 h.2.2.2.2
        rw [ey, (sat_word h.2.2.1).1, (sat_word h.2.2.1).2] at H2
        rw [hu] at H1
        have H1 := Lib.hid H1
        have H2 := Lib.hid H2
        clear ey hu
        generalize satV c (cnv s t x m) = v at *
        clear h hst
        go_enter Try.func12, Try.ntmps12
        go_wp2_with fail
        (with_reducible refine (awake_any _).mono ?_)
        rintro e w1 ⟨rfl, hb1⟩
        obtain ⟨bP1, cP1, fP1, zP1⟩ := (Blk.new (w) 63 #[.int .i64 b, .int .i64 s, .int .i64 c, .int .i64 t]).next hb1
        try simp at bP1 cP1 fP1 zP1
        have B1 := below_call (below_box (Below.refl w.heap.size w) _) hb1
        go_wp2_with fail
        (with_reducible refine (H1.out _).mono ?_)
        rintro e w2 ⟨rfl, hb2⟩
        obtain ⟨bP2, cP2, fP2, zP2⟩ := (bP1).next hb2
        try simp at bP2 cP2 fP2 zP2
        have B2 := below_call (B1) hb2
        clear cP1 fP1 zP1
        go_wp2_with fail
        (with_reducible refine (H2.out _).mono ?_)
        rintro e w3 ⟨rfl, hb3⟩
        obtain ⟨bP3, cP3, fP3, zP3⟩ := (bP2).next hb3
        try simp at bP3 cP3 fP3 zP3
        have B3 := below_call (B2) hb3
        clear cP2 fP2 zP2
        go_wp2_with fail
        go_ret
        exact ⟨ret_bool (by simp), B3⟩
      · rw [hu] at H1
        have H1 := Lib.hid H1
        clear hu
        generalize satV c (cnv s t x m) = v at *
        clear h hst
        go_enter Try.func12, Try.ntmps12
        go_wp2_with fail
        (with_reducible refine (awake_any _).mono ?_)
        rintro e w1 ⟨rfl, hb1⟩
        obtain ⟨bP1, cP1, fP1, zP1⟩ := (Blk.new (w) 63 #[.int .i64 b, .int .i64 s, .int .i64 c, .int .i64 t]).next hb1
        try simp at bP1 cP1 fP1 zP1
        have B1 := below_call (below_box (Below.refl w.heap.size w) _) hb1
        go_wp2_with fail
        (with_reducible refine (H1.out _).mono ?_)
        rintro e w2 ⟨rfl, hb2⟩
        obtain ⟨bP2, cP2, fP2, zP2⟩ := (bP1).next hb2
        try simp at bP2 cP2 fP2 zP2
        have B2 := below_call (B1) hb2
        clear cP1 fP1 zP1
        go_wp2_with fail
        go_ret
        exact ⟨ret_bool (by simp), B2⟩
    · have H1 := Lib.hid (Convert_no b s c t x m h)
      clear h hst
      go_enter Try.func12, Try.ntmps12
      go_wp2_with fail
      (with_reducible refine (awake_any _).mono ?_)
      rintro e w1 ⟨rfl, hb1⟩
      obtain ⟨bP1, cP1, fP1, zP1⟩ := (Blk.new (w) 63 #[.int .i64 b, .int .i64 s, .int .i64 c, .int .i64 t]).next hb1
      try simp at bP1 cP1 fP1 zP1
      have B1 := below_call (below_box (Below.refl w.heap.size w) _) hb1
      go_wp2_with fail
      (with_reducible refine (H1.out _).mono ?_)
      rintro e w2 ⟨rfl, hb2⟩
      obtain ⟨bP2, cP2, fP2, zP2⟩ := (bP1).next hb2
      try simp at bP2 cP2 fP2 zP2
      have B2 := below_call (B1) hb2
      clear cP1 fP1 zP1
      go_wp2_with fail
      go_ret
      exact ⟨ret_bool (by simp), B2⟩

end Go.Proofs.Ythldpmfobhemkaa
