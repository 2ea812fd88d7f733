/- The contracts of the reference's Check, Least, Greatest, Is, Clip, Add, Sub; the walk of WordAdds. -/
import Derived.Test.YthldpmfobhemkaaLaw1
namespace Go.Proofs.Ythldpmfobhemkaa
open Go.RowKit

set_option maxHeartbeats 1000000 in
theorem rCheck_yes (b s : Int) (h : okF b s) (w : World) : Calls Try.prog 28 #[.agg #[.int .i64 b, .int .i64 s]] w fun e w' => e = .returned (.int .i64 0) ∧ Below w.heap.size w w' := by
  obtain ⟨h1, h2, h3, h4⟩ := h
  have d1 : decide (b < 2) = false := decide_eq_false (by omega)
  have d2 : decide (32 < b) = false := decide_eq_false (by omega)
  have d3 : decide (s < -64) = false := decide_eq_false (by omega)
  have d4 : decide (64 < s) = false := decide_eq_false (by omega)
  go_enter Try.func28, Try.ntmps28
  go_wp2_with fail
  go_ret
  exact ⟨rfl, below_box (Below.refl _ _) _⟩
set_option maxHeartbeats 1000000 in
theorem rCheck_no (b s : Int) (h : ¬ okF b s) (w : World) : Calls Try.prog 28 #[.agg #[.int .i64 b, .int .i64 s]] w fun e w' => e = .returned (.int .i64 3) ∧ Below w.heap.size w w' := by
  have four : (decide (b < 2) = true) ∨ (decide (b < 2) = false ∧ decide (32 < b) = true) ∨ (decide (b < 2) = false ∧ decide (32 < b) = false ∧ decide (s < -64) = true) ∨ (decide (b < 2) = false ∧ decide (32 < b) = false ∧ decide (s < -64) = false ∧ decide (64 < s) = true) := by
    unfold okF at h
    simp only [decide_eq_true_eq, decide_eq_false_iff_not]
    omega
  clear h
  rcases four with d1 | ⟨d1, d2⟩ | ⟨d1, d2, d3⟩ | ⟨d1, d2, d3, d4⟩
  all_goals
    go_enter Try.func28, Try.ntmps28
    go_wp2_with fail
    go_ret
    exact ⟨rfl, below_box (Below.refl _ _) _⟩
theorem Least_any (b s : Int) (h : 2 ≤ b) (h2 : b ≤ 32) (w : World) : Calls Try.prog 31 #[.agg #[.int .i64 b, .int .i64 s]] w fun e w' => e = .returned (.int .i64 (-(halfF b))) ∧ Below w.heap.size w w' := by
  have hh := halfF_le h h2
  have hd : (2 : Int) ^ (b.toNat - 1) = halfF b := rfl
  have e0 : IntKind.i64.wrap (-(halfF b)) = -(halfF b) := IntWalk.i64_in _ (by omega)
  have e1 : IntKind.i64.wrap (-1 * halfF b) = -(halfF b) := by rw [Int.neg_mul, Int.one_mul]; exact e0
  have e2 : (-1 : Int) * 2 ^ (b.toNat - 1) = -(halfF b) := by rw [hd]; omega
  go_enter Try.func31, Try.ntmps31
  go_wp2
  go_ret
  exact ⟨rfl, below_box (Below.refl _ _) _⟩
theorem Greatest_any (b s : Int) (h : 2 ≤ b) (h2 : b ≤ 32) (w : World) : Calls Try.prog 32 #[.agg #[.int .i64 b, .int .i64 s]] w fun e w' => e = .returned (.int .i64 (halfF b - 1)) ∧ Below w.heap.size w w' := by
  have hh := halfF_le h h2
  have hd : (2 : Int) ^ (b.toNat - 1) = halfF b := rfl
  have e0 : IntKind.i64.wrap (halfF b) = halfF b := IntWalk.i64_in _ (by omega)
  have e2 : IntKind.i64.wrap (halfF b - 1) = halfF b - 1 := IntWalk.i64_in _ (by omega)
  go_enter Try.func32, Try.ntmps32
  go_wp2
  go_ret
  exact ⟨rfl, below_box (Below.refl _ _) _⟩

set_option maxHeartbeats 1000000 in
theorem rIs_yes (b s x : Int) (h : okF b s) (w : World) : Calls Try.prog 48 #[.agg #[.int .i64 b, .int .i64 s], .int .i64 x] w fun e w' => e = .returned (.bool (isW b x)) ∧ Below w.heap.size w w' := by
  have hh := halfF_le h.1 h.2.1
  have LE := Lib.hid (Least_any b s h.1 h.2.1)
  have GR := Lib.hid (Greatest_any b s h.1 h.2.1)
  have CY := Lib.hid (rCheck_yes b s h)
  have IW := Lib.hid (show isW b x = (decide (-(halfF b) ≤ x) && decide (x ≤ halfF b - 1)) from rfl)
  generalize halfF b = t at *
  by_cases a : -t ≤ x
  · have d1 : decide (-t ≤ x) = true := decide_eq_true a
    go_enter Try.func48, Try.ntmps48
    go_wp2_with fail
    (with_reducible refine (CY.out _).mono ?_)
    rintro e w1 ⟨rfl, hb1⟩
    obtain ⟨bF1, cF1, fF1, zF1⟩ := (Blk.new w 23 #[.int .i64 b, .int .i64 s]).next hb1
    try simp at bF1 cF1 fF1 zF1
    have B1 := below_call (below_box (Below.refl w.heap.size w) _) hb1
    go_wp2_with fail
    (with_reducible refine (LE.out _).mono ?_)
    rintro e w2 ⟨rfl, hb2⟩
    obtain ⟨bF2, cF2, fF2, zF2⟩ := (bF1).next hb2
    try simp at bF2 cF2 fF2 zF2
    have B2 := below_call (B1) hb2
    clear cF1 fF1 zF1
    go_wp2_with fail
    (with_reducible refine (GR.out _).mono ?_)
    rintro e w3 ⟨rfl, hb3⟩
    obtain ⟨bF3, cF3, fF3, zF3⟩ := (bF2).next hb3
    try simp at bF3 cF3 fF3 zF3
    have B3 := below_call (B2) hb3
    clear cF2 fF2 zF2
    go_wp2_with fail
    go_ret
    exact ⟨ret_bool (by rw [IW.out]; simp [d1]), B3⟩
  · have d1 : decide (-t ≤ x) = false := decide_eq_false a
    go_enter Try.func48, Try.ntmps48
    go_wp2_with fail
    (with_reducible refine (CY.out _).mono ?_)
    rintro e w1 ⟨rfl, hb1⟩
    obtain ⟨bF1, cF1, fF1, zF1⟩ := (Blk.new w 23 #[.int .i64 b, .int .i64 s]).next hb1
    try simp at bF1 cF1 fF1 zF1
    have B1 := below_call (below_box (Below.refl w.heap.size w) _) hb1
    go_wp2_with fail
    (with_reducible refine (LE.out _).mono ?_)
    rintro e w2 ⟨rfl, hb2⟩
    obtain ⟨bF2, cF2, fF2, zF2⟩ := (bF1).next hb2
    try simp at bF2 cF2 fF2 zF2
    have B2 := below_call (B1) hb2
    clear cF1 fF1 zF1
    go_wp2_with fail
    go_ret
    exact ⟨ret_bool (by rw [IW.out]; simp [d1]), B2⟩

set_option maxHeartbeats 1000000 in
theorem rIs_no (b s x : Int) (h : ¬ okF b s) (w : World) : Calls Try.prog 48 #[.agg #[.int .i64 b, .int .i64 s], .int .i64 x] w fun e w' => e = .returned (.bool false) ∧ Below w.heap.size w w' := by
  go_enter Try.func48, Try.ntmps48
  go_wp2_with fail
  (with_reducible refine (rCheck_no b s h _).mono ?_)
  rintro e w1 ⟨rfl, hb1⟩
  obtain ⟨bF1, cF1, fF1, zF1⟩ := (Blk.new w 23 #[.int .i64 b, .int .i64 s]).next hb1
  try simp at bF1 cF1 fF1 zF1
  have B1 := below_call (below_box (Below.refl w.heap.size w) _) hb1
  go_wp2_with fail
  go_ret
  exact ⟨rfl, B1⟩

set_option maxHeartbeats 1000000 in
theorem rClip_any (b s x : Int) (h : 2 ≤ b) (h2 : b ≤ 32) (w : World) : Calls Try.prog 30 #[.agg #[.int .i64 b, .int .i64 s], .int .i64 x] w fun e w' => e = .returned (.tuple #[.int .i64 (satV b x), .bool (satB b x)]) ∧ Below w.heap.size w w' := by
  have hh := halfF_le h h2
  have LE := Lib.hid (Least_any b s h h2)
  have GR := Lib.hid (Greatest_any b s h h2)
  have VV := Lib.hid (show satV b x = max (-(halfF b)) (min x (halfF b - 1)) from rfl)
  have BB := Lib.hid (show satB b x = !(satV b x == x) from rfl)
  generalize halfF b = t at *
  by_cases a : x < -t
  · have d1 : decide (x < -t) = true := decide_eq_true a
    have ev : satV b x = -t := by rw [VV.out]; omega
    have eb : satB b x = true := by rw [BB.out, ev]; simp; omega
    have EV := Lib.hid ev
    have EB := Lib.hid eb
    clear ev eb
    go_enter Try.func30, Try.ntmps30
    go_wp2_with fail
    (with_reducible refine (LE.out _).mono ?_)
    rintro e w1 ⟨rfl, hb1⟩
    obtain ⟨bF1, cF1, fF1, zF1⟩ := (Blk.new w 23 #[.int .i64 b, .int .i64 s]).next hb1
    try simp at bF1 cF1 fF1 zF1
    have B1 := below_call (below_box (Below.refl w.heap.size w) _) hb1
    go_wp2_with fail
    (with_reducible refine (LE.out _).mono ?_)
    rintro e w2 ⟨rfl, hb2⟩
    obtain ⟨bF2, cF2, fF2, zF2⟩ := (bF1).next hb2
    try simp at bF2 cF2 fF2 zF2
    have B2 := below_call (B1) hb2
    clear cF1 fF1 zF1
    go_wp2_with fail
    refine bodyPost_ret (v := .tuple #[.int .i64 (-t), .bool true]) ?_ rfl ⟨by rw [EV.out, EB.out], ?_⟩
    · simp [results, Try.results30, go_sem]
    · exact B2
  · have d1 : decide (x < -t) = false := decide_eq_false a
    by_cases a2 : t - 1 < x
    · have d2 : decide (t - 1 < x) = true := decide_eq_true a2
      have ev : satV b x = t - 1 := by rw [VV.out]; omega
      have eb : satB b x = true := by rw [BB.out, ev]; simp; omega
      have EV := Lib.hid ev
      have EB := Lib.hid eb
      clear ev eb
      go_enter Try.func30, Try.ntmps30
      go_wp2_with fail
      (with_reducible refine (LE.out _).mono ?_)
      rintro e w1 ⟨rfl, hb1⟩
      obtain ⟨bF1, cF1, fF1, zF1⟩ := (Blk.new w 23 #[.int .i64 b, .int .i64 s]).next hb1
      try simp at bF1 cF1 fF1 zF1
      have B1 := below_call (below_box (Below.refl w.heap.size w) _) hb1
      go_wp2_with fail
      (with_reducible refine (GR.out _).mono ?_)
      rintro e w2 ⟨rfl, hb2⟩
      obtain ⟨bF2, cF2, fF2, zF2⟩ := (bF1).next hb2
      try simp at bF2 cF2 fF2 zF2
      have B2 := below_call (B1) hb2
      clear cF1 fF1 zF1
      go_wp2_with fail
      (with_reducible refine (GR.out _).mono ?_)
      rintro e w3 ⟨rfl, hb3⟩
      obtain ⟨bF3, cF3, fF3, zF3⟩ := (bF2).next hb3
      try simp at bF3 cF3 fF3 zF3
      have B3 := below_call (B2) hb3
      clear cF2 fF2 zF2
      go_wp2_with fail
      refine bodyPost_ret (v := .tuple #[.int .i64 (t - 1), .bool true]) ?_ rfl ⟨by rw [EV.out, EB.out], ?_⟩
      · simp [results, Try.results30, go_sem]
      · exact B3
    · have d2 : decide (t - 1 < x) = false := decide_eq_false a2
      have ev : satV b x = x := by rw [VV.out]; omega
      have eb : satB b x = false := by rw [BB.out, ev]; simp
      have EV := Lib.hid ev
      have EB := Lib.hid eb
      clear ev eb
      go_enter Try.func30, Try.ntmps30
      go_wp2_with fail
      (with_reducible refine (LE.out _).mono ?_)
      rintro e w1 ⟨rfl, hb1⟩
      obtain ⟨bF1, cF1, fF1, zF1⟩ := (Blk.new w 23 #[.int .i64 b, .int .i64 s]).next hb1
      try simp at bF1 cF1 fF1 zF1
      have B1 := below_call (below_box (Below.refl w.heap.size w) _) hb1
      go_wp2_with fail
      (with_reducible refine (GR.out _).mono ?_)
      rintro e w2 ⟨rfl, hb2⟩
      obtain ⟨bF2, cF2, fF2, zF2⟩ := (bF1).next hb2
      try simp at bF2 cF2 fF2 zF2
      have B2 := below_call (B1) hb2
      clear cF1 fF1 zF1
      go_wp2_with fail
      refine bodyPost_ret (v := .tuple #[.int .i64 x, .bool false]) ?_ rfl ⟨by rw [EV.out, EB.out], ?_⟩
      · simp [results, Try.results30, go_sem]
      · exact B2

set_option maxHeartbeats 1000000 in
theorem rAdd_yes (b s x y : Int) (h : okW b s x y) (w : World) : Calls Try.prog 23 #[.agg #[.int .i64 b, .int .i64 s], .int .i64 x, .int .i64 y] w fun e w' => e = .returned (.tuple #[.int .i64 (satV b (x + y)), .bool (satB b (x + y)), .int .i64 0]) ∧ Below w.heap.size w w' := by
  have hF := h.1
  have hA := h.1.1
  have hB := h.1.2.1
  have hx := isW_le h.1.1 h.1.2.1 h.2.1
  have hy := isW_le h.1.1 h.1.2.1 h.2.2
  have e0 : IntKind.i64.wrap (x + y) = x + y := IntWalk.i64_in _ (by omega)
  have IX := rIs_yes b s x h.1
  rw [h.2.1] at IX
  have IX := Lib.hid IX
  have IY := rIs_yes b s y h.1
  rw [h.2.2] at IY
  have IY := Lib.hid IY
  go_enter Try.func23, Try.ntmps23
  go_wp2_with fail
  (with_reducible refine (IX.out _).mono ?_)
  rintro e w1 ⟨rfl, hb1⟩
  obtain ⟨bF1, cF1, fF1, zF1⟩ := (Blk.new w 23 #[.int .i64 b, .int .i64 s]).next hb1
  try simp at bF1 cF1 fF1 zF1
  have B1 := below_call (below_box (Below.refl w.heap.size w) _) hb1
  go_wp2_with fail
  (with_reducible refine (IY.out _).mono ?_)
  rintro e w2 ⟨rfl, hb2⟩
  obtain ⟨bF2, cF2, fF2, zF2⟩ := (bF1).next hb2
  try simp at bF2 cF2 fF2 zF2
  have B2 := below_call (B1) hb2
  clear cF1 fF1 zF1
  go_wp2_with fail
  (with_reducible refine (rClip_any b s (x + y) hA hB _).mono ?_)
  rintro e w3 ⟨rfl, hb3⟩
  obtain ⟨bF3, cF3, fF3, zF3⟩ := (bF2).next hb3
  try simp at bF3 cF3 fF3 zF3
  have B3 := below_call (B2) hb3
  clear cF2 fF2 zF2
  go_wp2_with fail
  refine bodyPost_ret (v := .tuple #[.int .i64 (satV b (x + y)), .bool (satB b (x + y)), .int .i64 0]) ?_ rfl ⟨rfl, ?_⟩
  · simp [results, Try.results23, go_sem]
  · exact B3

set_option maxHeartbeats 1000000 in
theorem rAdd_no (b s x y : Int) (h : ¬ okW b s x y) (w : World) : Calls Try.prog 23 #[.agg #[.int .i64 b, .int .i64 s], .int .i64 x, .int .i64 y] w fun e w' => e = .returned (.tuple #[.int .i64 0, .bool false, .int .i64 3]) ∧ Below w.heap.size w w' := by
  have three : (¬ okF b s) ∨ (okF b s ∧ isW b x = false) ∨ (okF b s ∧ isW b x = true ∧ isW b y = false) := by
    by_cases h0 : okF b s
    · cases h1 : isW b x
      · exact .inr (.inl ⟨h0, rfl⟩)
      · cases h2 : isW b y
        · exact .inr (.inr ⟨h0, rfl, rfl⟩)
        · exact absurd ⟨h0, h1, h2⟩ h
    · exact .inl h0
  clear h
  rcases three with h0 | ⟨h0, h1⟩ | ⟨h0, h1, h2⟩
  · go_enter Try.func23, Try.ntmps23
    go_wp2_with fail
    (with_reducible refine (rIs_no b s x h0 _).mono ?_)
    rintro e w1 ⟨rfl, hb1⟩
    obtain ⟨bF1, cF1, fF1, zF1⟩ := (Blk.new w 23 #[.int .i64 b, .int .i64 s]).next hb1
    try simp at bF1 cF1 fF1 zF1
    have B1 := below_call (below_box (Below.refl w.heap.size w) _) hb1
    go_wp2_with fail
    refine bodyPost_ret (v := .tuple #[.int .i64 0, .bool false, .int .i64 3]) ?_ rfl ⟨rfl, ?_⟩
    · simp [results, Try.results23, go_sem]
    · exact B1
  · have IX := rIs_yes b s x h0
    rw [h1] at IX
    have IX := Lib.hid IX
    go_enter Try.func23, Try.ntmps23
    go_wp2_with fail
    (with_reducible refine (IX.out _).mono ?_)
    rintro e w1 ⟨rfl, hb1⟩
    obtain ⟨bF1, cF1, fF1, zF1⟩ := (Blk.new w 23 #[.int .i64 b, .int .i64 s]).next hb1
    try simp at bF1 cF1 fF1 zF1
    have B1 := below_call (below_box (Below.refl w.heap.size w) _) hb1
    go_wp2_with fail
    refine bodyPost_ret (v := .tuple #[.int .i64 0, .bool false, .int .i64 3]) ?_ rfl ⟨rfl, ?_⟩
    · simp [results, Try.results23, go_sem]
    · exact B1
  · have IX := rIs_yes b s x h0
    rw [h1] at IX
    have IX := Lib.hid IX
    have IY := rIs_yes b s y h0
    rw [h2] at IY
    have IY := Lib.hid IY
    go_enter Try.func23, Try.ntmps23
    go_wp2_with fail
    (with_reducible refine (IX.out _).mono ?_)
    rintro e w1 ⟨rfl, hb1⟩
    obtain ⟨bF1, cF1, fF1, zF1⟩ := (Blk.new w 23 #[.int .i64 b, .int .i64 s]).next hb1
    try simp at bF1 cF1 fF1 zF1
    have B1 := below_call (below_box (Below.refl w.heap.size w) _) hb1
    go_wp2_with fail
    (with_reducible refine (IY.out _).mono ?_)
    rintro e w2 ⟨rfl, hb2⟩
    obtain ⟨bF2, cF2, fF2, zF2⟩ := (bF1).next hb2
    try simp at bF2 cF2 fF2 zF2
    have B2 := below_call (B1) hb2
    clear cF1 fF1 zF1
    go_wp2_with fail
    refine bodyPost_ret (v := .tuple #[.int .i64 0, .bool false, .int .i64 3]) ?_ rfl ⟨rfl, ?_⟩
    · simp [results, Try.results23, go_sem]
    · exact B2

set_option maxHeartbeats 1000000 in
theorem rSub_yes (b s x y : Int) (h : okW b s x y) (w : World) : Calls Try.prog 25 #[.agg #[.int .i64 b, .int .i64 s], .int .i64 x, .int .i64 y] w fun e w' => e = .returned (.tuple #[.int .i64 (satV b (x - y)), .bool (satB b (x - y)), .int .i64 0]) ∧ Below w.heap.size w w' := by
  have hF := h.1
  have hA := h.1.1
  have hB := h.1.2.1
  have hx := isW_le h.1.1 h.1.2.1 h.2.1
  have hy := isW_le h.1.1 h.1.2.1 h.2.2
  have e0 : IntKind.i64.wrap (x - y) = x - y := IntWalk.i64_in _ (by omega)
  have IX := rIs_yes b s x h.1
  rw [h.2.1] at IX
  have IX := Lib.hid IX
  have IY := rIs_yes b s y h.1
  rw [h.2.2] at IY
  have IY := Lib.hid IY
  go_enter Try.func25, Try.ntmps25
  go_wp2_with fail
  (with_reducible refine (IX.out _).mono ?_)
  rintro e w1 ⟨rfl, hb1⟩
  obtain ⟨bF1, cF1, fF1, zF1⟩ := (Blk.new w 23 #[.int .i64 b, .int .i64 s]).next hb1
  try simp at bF1 cF1 fF1 zF1
  have B1 := below_call (below_box (Below.refl w.heap.size w) _) hb1
  go_wp2_with fail
  (with_reducible refine (IY.out _).mono ?_)
  rintro e w2 ⟨rfl, hb2⟩
  obtain ⟨bF2, cF2, fF2, zF2⟩ := (bF1).next hb2
  try simp at bF2 cF2 fF2 zF2
  have B2 := below_call (B1) hb2
  clear cF1 fF1 zF1
  go_wp2_with fail
  (with_reducible refine (rClip_any b s (x - y) hA hB _).mono ?_)
  rintro e w3 ⟨rfl, hb3⟩
  obtain ⟨bF3, cF3, fF3, zF3⟩ := (bF2).next hb3
  try simp at bF3 cF3 fF3 zF3
  have B3 := below_call (B2) hb3
  clear cF2 fF2 zF2
  go_wp2_with fail
  refine bodyPost_ret (v := .tuple #[.int .i64 (satV b (x - y)), .bool (satB b (x - y)), .int .i64 0]) ?_ rfl ⟨rfl, ?_⟩
  · simp [results, Try.results25, go_sem]
  · exact B3

set_option maxHeartbeats 1000000 in
theorem rSub_no (b s x y : Int) (h : ¬ okW b s x y) (w : World) : Calls Try.prog 25 #[.agg #[.int .i64 b, .int .i64 s], .int .i64 x, .int .i64 y] w fun e w' => e = .returned (.tuple #[.int .i64 0, .bool false, .int .i64 3]) ∧ Below w.heap.size w w' := by
  have three : (¬ okF b s) ∨ (okF b s ∧ isW b x = false) ∨ (okF b s ∧ isW b x = true ∧ isW b y = false) := by
    by_cases h0 : okF b s
    · cases h1 : isW b x
      · exact .inr (.inl ⟨h0, rfl⟩)
      · cases h2 : isW b y
        · exact .inr (.inr ⟨h0, rfl, rfl⟩)
        · exact absurd ⟨h0, h1, h2⟩ h
    · exact .inl h0
  clear h
  rcases three with h0 | ⟨h0, h1⟩ | ⟨h0, h1, h2⟩
  · go_enter Try.func25, Try.ntmps25
    go_wp2_with fail
    (with_reducible refine (rIs_no b s x h0 _).mono ?_)
    rintro e w1 ⟨rfl, hb1⟩
    obtain ⟨bF1, cF1, fF1, zF1⟩ := (Blk.new w 23 #[.int .i64 b, .int .i64 s]).next hb1
    try simp at bF1 cF1 fF1 zF1
    have B1 := below_call (below_box (Below.refl w.heap.size w) _) hb1
    go_wp2_with fail
    refine bodyPost_ret (v := .tuple #[.int .i64 0, .bool false, .int .i64 3]) ?_ rfl ⟨rfl, ?_⟩
    · simp [results, Try.results25, go_sem]
    · exact B1
  · have IX := rIs_yes b s x h0
    rw [h1] at IX
    have IX := Lib.hid IX
    go_enter Try.func25, Try.ntmps25
    go_wp2_with fail
    (with_reducible refine (IX.out _).mono ?_)
    rintro e w1 ⟨rfl, hb1⟩
    obtain ⟨bF1, cF1, fF1, zF1⟩ := (Blk.new w 23 #[.int .i64 b, .int .i64 s]).next hb1
    try simp at bF1 cF1 fF1 zF1
    have B1 := below_call (below_box (Below.refl w.heap.size w) _) hb1
    go_wp2_with fail
    refine bodyPost_ret (v := .tuple #[.int .i64 0, .bool false, .int .i64 3]) ?_ rfl ⟨rfl, ?_⟩
    · simp [results, Try.results25, go_sem]
    · exact B1
  · have IX := rIs_yes b s x h0
    rw [h1] at IX
    have IX := Lib.hid IX
    have IY := rIs_yes b s y h0
    rw [h2] at IY
    have IY := Lib.hid IY
    go_enter Try.func25, Try.ntmps25
    go_wp2_with fail
    (with_reducible refine (IX.out _).mono ?_)
    rintro e w1 ⟨rfl, hb1⟩
    obtain ⟨bF1, cF1, fF1, zF1⟩ := (Blk.new w 23 #[.int .i64 b, .int .i64 s]).next hb1
    try simp at bF1 cF1 fF1 zF1
    have B1 := below_call (below_box (Below.refl w.heap.size w) _) hb1
    go_wp2_with fail
    (with_reducible refine (IY.out _).mono ?_)
    rintro e w2 ⟨rfl, hb2⟩
    obtain ⟨bF2, cF2, fF2, zF2⟩ := (bF1).next hb2
    try simp at bF2 cF2 fF2 zF2
    have B2 := below_call (B1) hb2
    clear cF1 fF1 zF1
    go_wp2_with fail
    refine bodyPost_ret (v := .tuple #[.int .i64 0, .bool false, .int .i64 3]) ?_ rfl ⟨rfl, ?_⟩
    · simp [results, Try.results25, go_sem]
    · exact B2

set_option maxHeartbeats 2000000 in
theorem adds_any (b s x y : Int)  (w : World) : Calls Try.prog 8 #[.agg #[.int .i64 b, .int .i64 s], .agg #[.int .i64 x, .int .i64 y]] w fun e w' => e = .returned (.bool true) ∧ Below w.heap.size w w' := by
  by_cases h : okW b s x y
  · have HAdd := Lib.hid (Add_yes b s x y h)
    have HrAdd := Lib.hid (rAdd_yes b s x y h)
    have HSub := Lib.hid (Sub_yes b s x y h)
    have HrSub := Lib.hid (rSub_yes b s x y h)
    generalize satV b (x + y) = v1 at *
    generalize satB b (x + y) = c1 at *
    generalize satV b (x - y) = v2 at *
    generalize satB b (x - y) = c2 at *
    go_enter Try.func8, Try.ntmps8
    go_wp2_with fail
    (with_reducible refine (awake_any _).mono ?_)
    rintro e w1 ⟨rfl, hb1⟩
    obtain ⟨bF1, cF1, fF1, zF1⟩ := ((Blk.new w 23 #[.int .i64 b, .int .i64 s]).alloc _).next hb1
    obtain ⟨bA1, cA1, fA1, zA1⟩ := (Blk.new (w.alloc _) 43 #[.int .i64 x, .int .i64 y]).next hb1
    simp at bF1 cF1 fF1 zF1 bA1 cA1 fA1 zA1
    have B1 := below_call (below_box (below_box (Below.refl w.heap.size w) _) _) hb1
    go_wp2_with fail
    (with_reducible refine (HAdd.out _).mono ?_)
    rintro e w2 ⟨rfl, hb2⟩
    obtain ⟨bF2, cF2, fF2, zF2⟩ := bF1.next hb2
    obtain ⟨bA2, cA2, fA2, zA2⟩ := bA1.next hb2
    have B2 := below_call B1 hb2
    clear cF1 fF1 zF1 cA1 fA1 zA1
    go_wp2_with fail
    (with_reducible refine (HrAdd.out _).mono ?_)
    rintro e w3 ⟨rfl, hb3⟩
    obtain ⟨bF3, cF3, fF3, zF3⟩ := bF2.next hb3
    obtain ⟨bA3, cA3, fA3, zA3⟩ := bA2.next hb3
    have B3 := below_call B2 hb3
    clear cF2 fF2 zF2 cA2 fA2 zA2
    go_wp2_with fail
    (with_reducible refine (num_nil _).mono ?_)
    rintro e w' ⟨rfl, rfl⟩
    go_wp2_with fail
    (with_reducible refine (HSub.out _).mono ?_)
    rintro e w4 ⟨rfl, hb4⟩
    obtain ⟨bF4, cF4, fF4, zF4⟩ := bF3.next hb4
    obtain ⟨bA4, cA4, fA4, zA4⟩ := bA3.next hb4
    have B4 := below_call B3 hb4
    clear cF3 fF3 zF3 cA3 fA3 zA3
    go_wp2_with fail
    (with_reducible refine (HrSub.out _).mono ?_)
    rintro e w5 ⟨rfl, hb5⟩
    obtain ⟨bF5, cF5, fF5, zF5⟩ := bF4.next hb5
    obtain ⟨bA5, cA5, fA5, zA5⟩ := bA4.next hb5
    have B5 := below_call B4 hb5
    clear cF4 fF4 zF4 cA4 fA4 zA4
    go_wp2_with fail
    (with_reducible refine (num_nil _).mono ?_)
    rintro e w' ⟨rfl, rfl⟩
    go_wp2_with fail
    go_ret
    exact ⟨ret_bool (by simp), B5⟩
  · have HAdd := Lib.hid (Add_no b s x y h)
    have HrAdd := Lib.hid (rAdd_no b s x y h)
    have HSub := Lib.hid (Sub_no b s x y h)
    have HrSub := Lib.hid (rSub_no b s x y h)
    go_enter Try.func8, Try.ntmps8
    go_wp2_with fail
    (with_reducible refine (awake_any _).mono ?_)
    rintro e w1 ⟨rfl, hb1⟩
    obtain ⟨bF1, cF1, fF1, zF1⟩ := ((Blk.new w 23 #[.int .i64 b, .int .i64 s]).alloc _).next hb1
    obtain ⟨bA1, cA1, fA1, zA1⟩ := (Blk.new (w.alloc _) 43 #[.int .i64 x, .int .i64 y]).next hb1
    simp at bF1 cF1 fF1 zF1 bA1 cA1 fA1 zA1
    have B1 := below_call (below_box (below_box (Below.refl w.heap.size w) _) _) hb1
    go_wp2_with fail
    (with_reducible refine (HAdd.out _).mono ?_)
    rintro e w2 ⟨rfl, hb2⟩
    obtain ⟨bF2, cF2, fF2, zF2⟩ := bF1.next hb2
    obtain ⟨bA2, cA2, fA2, zA2⟩ := bA1.next hb2
    have B2 := below_call B1 hb2
    clear cF1 fF1 zF1 cA1 fA1 zA1
    go_wp2_with fail
    (with_reducible refine (HrAdd.out _).mono ?_)
    rintro e w3 ⟨rfl, hb3⟩
    obtain ⟨bF3, cF3, fF3, zF3⟩ := bF2.next hb3
    obtain ⟨bA3, cA3, fA3, zA3⟩ := bA2.next hb3
    have B3 := below_call B2 hb3
    clear cF2 fF2 zF2 cA2 fA2 zA2
    go_wp2_with fail
    (with_reducible refine (num_three _).mono ?_)
    rintro e w' ⟨rfl, rfl⟩
    go_wp2_with fail
    (with_reducible refine (HSub.out _).mono ?_)
    rintro e w4 ⟨rfl, hb4⟩
    obtain ⟨bF4, cF4, fF4, zF4⟩ := bF3.next hb4
    obtain ⟨bA4, cA4, fA4, zA4⟩ := bA3.next hb4
    have B4 := below_call B3 hb4
    clear cF3 fF3 zF3 cA3 fA3 zA3
    go_wp2_with fail
    (with_reducible refine (HrSub.out _).mono ?_)
    rintro e w5 ⟨rfl, hb5⟩
    obtain ⟨bF5, cF5, fF5, zF5⟩ := bF4.next hb5
    obtain ⟨bA5, cA5, fA5, zA5⟩ := bA4.next hb5
    have B5 := below_call B4 hb5
    clear cF4 fF4 zF4 cA4 fA4 zA4
    go_wp2_with fail
    (with_reducible refine (num_three _).mono ?_)
    rintro e w' ⟨rfl, rfl⟩
    go_wp2_with fail
    go_ret
    exact ⟨ret_bool (by simp), B5⟩

end Go.Proofs.Ythldpmfobhemkaa
