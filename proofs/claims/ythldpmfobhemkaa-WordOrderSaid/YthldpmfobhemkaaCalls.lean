/- The contracts of layer 1's both, Add, Sub, Mul, Shift, Bounds, Clip. -/
import Derived.Test.YthldpmfobhemkaaLeafs
namespace Go.Proofs.Ythldpmfobhemkaa
open Go.RowKit

/-- Two words of a format. -/
def okW (b s x y : Int) : Prop := okF b s ∧ isW b x = true ∧ isW b y = true
theorem isW_le {b x : Int} (h : 2 ≤ b) (h2 : b ≤ 32) (hx : isW b x = true) : -2147483648 ≤ x ∧ x ≤ 2147483647 := by
  rw [isW_iff] at hx
  have := halfF_le h h2
  omega

theorem mul_le {x y : Int} (hx : -2147483648 ≤ x ∧ x ≤ 2147483647) (hy : -2147483648 ≤ y ∧ y ≤ 2147483647) : -4611686018427387904 ≤ x * y ∧ x * y ≤ 4611686018427387904 := by
  have h1 := Int.natAbs_mul x y
  have h2 : x.natAbs ≤ 2147483648 := by omega
  have h3 : y.natAbs ≤ 2147483648 := by omega
  have h4 := Nat.mul_le_mul h2 h3
  omega

set_option maxHeartbeats 1000000 in
theorem both_yes (b s x y : Int) (h : okW b s x y) (w : World) : Calls Try.prog 43 #[.agg #[.int .i64 b, .int .i64 s], .int .i64 x, .int .i64 y] w fun e w' => e = .returned (.nilIface) ∧ Below w.heap.size w w' := by
  have hF := h.1
  have IX := is_any b s x h.1.1 h.1.2.1
  rw [h.2.1] at IX
  have IX := Lib.hid IX
  have IY := is_any b s y h.1.1 h.1.2.1
  rw [h.2.2] at IY
  have IY := Lib.hid IY
  go_enter Try.func43, Try.ntmps43
  go_wp2_with fail
  (with_reducible refine (Check_yes b s hF _).mono ?_)
  rintro e w1 ⟨rfl, hb1⟩
  obtain ⟨bF1, cF1, fF1, zF1⟩ := (Blk.new w 23 #[.int .i64 b, .int .i64 s]).next hb1
  try simp at bF1 cF1 fF1 zF1
  have B1 := below_call (below_box (Below.refl w.heap.size w) _) hb1
  go_wp2_with fail
  (with_reducible refine (IX.out _).mono ?_)
  rintro e w2 ⟨rfl, hb2⟩
  obtain ⟨bF2, cF2, fF2, zF2⟩ := (bF1).next hb2
  try simp at bF2 cF2 fF2 zF2
  have B2 := below_call (B1) hb2
  clear cF1 fF1 zF1
  go_wp2_with fail
  (with_reducible refine (IY.out _).mono ?_)
  rintro e w3 ⟨rfl, hb3⟩
  obtain ⟨bF3, cF3, fF3, zF3⟩ := (bF2).next hb3
  try simp at bF3 cF3 fF3 zF3
  have B3 := below_call (B2) hb3
  clear cF2 fF2 zF2
  go_wp2_with fail
  go_ret
  exact ⟨rfl, B3⟩

set_option maxHeartbeats 1000000 in
theorem both_no (b s x y : Int) (h : ¬ okW b s x y) (w : World) : Calls Try.prog 43 #[.agg #[.int .i64 b, .int .i64 s], .int .i64 x, .int .i64 y] w fun e w' => e = .returned (.iface 67 (.int .i64 3)) ∧ Below w.heap.size w w' := by
  by_cases h0 : okF b s
  · by_cases h1 : isW b x = true
    · have h2 : isW b y = false := by
        cases e : isW b y
        · rfl
        · exact absurd ⟨h0, h1, e⟩ h
      have IX := is_any b s x h0.1 h0.2.1
      rw [h1] at IX
      have IX := Lib.hid IX
      have IY := is_any b s y h0.1 h0.2.1
      rw [h2] at IY
      have IY := Lib.hid IY
      go_enter Try.func43, Try.ntmps43
      go_wp2_with fail
      (with_reducible refine (Check_yes b s h0 _).mono ?_)
      rintro e w1 ⟨rfl, hb1⟩
      obtain ⟨bF1, cF1, fF1, zF1⟩ := (Blk.new w 23 #[.int .i64 b, .int .i64 s]).next hb1
      try simp at bF1 cF1 fF1 zF1
      have B1 := below_call (below_box (Below.refl w.heap.size w) _) hb1
      go_wp2_with fail
      (with_reducible refine (IX.out _).mono ?_)
      rintro e w2 ⟨rfl, hb2⟩
      obtain ⟨bF2, cF2, fF2, zF2⟩ := (bF1).next hb2
      try simp at bF2 cF2 fF2 zF2
      have B2 := below_call (B1) hb2
      clear cF1 fF1 zF1
      go_wp2_with fail
      (with_reducible refine (IY.out _).mono ?_)
      rintro e w3 ⟨rfl, hb3⟩
      obtain ⟨bF3, cF3, fF3, zF3⟩ := (bF2).next hb3
      try simp at bF3 cF3 fF3 zF3
      have B3 := below_call (B2) hb3
      clear cF2 fF2 zF2
      go_wp2_with fail
      go_ret
      exact ⟨rfl, B3⟩
    · rw [Bool.not_eq_true] at h1
      have IX := is_any b s x h0.1 h0.2.1
      rw [h1] at IX
      have IX := Lib.hid IX
      go_enter Try.func43, Try.ntmps43
      go_wp2_with fail
      (with_reducible refine (Check_yes b s h0 _).mono ?_)
      rintro e w1 ⟨rfl, hb1⟩
      obtain ⟨bF1, cF1, fF1, zF1⟩ := (Blk.new w 23 #[.int .i64 b, .int .i64 s]).next hb1
      try simp at bF1 cF1 fF1 zF1
      have B1 := below_call (below_box (Below.refl w.heap.size w) _) hb1
      go_wp2_with fail
      (with_reducible refine (IX.out _).mono ?_)
      rintro e w2 ⟨rfl, hb2⟩
      obtain ⟨bF2, cF2, fF2, zF2⟩ := (bF1).next hb2
      try simp at bF2 cF2 fF2 zF2
      have B2 := below_call (B1) hb2
      clear cF1 fF1 zF1
      go_wp2_with fail
      go_ret
      exact ⟨rfl, B2⟩
  · go_enter Try.func43, Try.ntmps43
    go_wp2_with fail
    (with_reducible refine (Check_no b s h0 _).mono ?_)
    rintro e w1 ⟨rfl, hb1⟩
    obtain ⟨bF1, cF1, fF1, zF1⟩ := (Blk.new w 23 #[.int .i64 b, .int .i64 s]).next hb1
    try simp at bF1 cF1 fF1 zF1
    have B1 := below_call (below_box (Below.refl w.heap.size w) _) hb1
    go_wp2_with fail
    go_ret
    exact ⟨rfl, B1⟩

set_option maxHeartbeats 1000000 in
theorem Add_yes (b s x y : Int) (h : okW b s x y) (w : World) : Calls Try.prog 22 #[.agg #[.int .i64 b, .int .i64 s], .int .i64 x, .int .i64 y] w fun e w' => e = .returned (.tuple #[.int .i64 (satV b (x + y)), .bool (satB b (x + y)), .nilIface]) ∧ Below w.heap.size w w' := by
  have hx := isW_le h.1.1 h.1.2.1 h.2.1
  have hy := isW_le h.1.1 h.1.2.1 h.2.2
  have hA := h.1.1
  have hB := h.1.2.1
  have e0 : IntKind.i64.wrap (x + y) = x + y := IntWalk.i64_in _ (by omega)
  go_enter Try.func22, Try.ntmps22
  go_wp2_with fail
  (with_reducible refine (both_yes b s x y h _).mono ?_)
  rintro e w1 ⟨rfl, hb1⟩
  obtain ⟨bF1, cF1, fF1, zF1⟩ := (Blk.new w 23 #[.int .i64 b, .int .i64 s]).next hb1
  try simp at bF1 cF1 fF1 zF1
  have B1 := below_call (below_box (Below.refl w.heap.size w) _) hb1
  go_wp2_with fail
  (with_reducible refine (saturate_any b s (x + y) hA hB _).mono ?_)
  rintro e w2 ⟨rfl, hb2⟩
  obtain ⟨bF2, cF2, fF2, zF2⟩ := (bF1).next hb2
  try simp at bF2 cF2 fF2 zF2
  have B2 := below_call (B1) hb2
  clear cF1 fF1 zF1
  go_wp2_with fail
  refine bodyPost_ret (v := .tuple #[.int .i64 (satV b (x + y)), .bool (satB b (x + y)), .nilIface]) ?_ rfl ⟨rfl, ?_⟩
  · simp [results, Try.results22, go_sem]
  · exact B2

set_option maxHeartbeats 1000000 in
theorem Add_no (b s x y : Int) (h : ¬ okW b s x y) (w : World) : Calls Try.prog 22 #[.agg #[.int .i64 b, .int .i64 s], .int .i64 x, .int .i64 y] w fun e w' => e = .returned (.tuple #[.int .i64 0, .bool false, .iface 67 (.int .i64 3)]) ∧ Below w.heap.size w w' := by
  go_enter Try.func22, Try.ntmps22
  go_wp2_with fail
  (with_reducible refine (both_no b s x y h _).mono ?_)
  rintro e w1 ⟨rfl, hb1⟩
  obtain ⟨bF1, cF1, fF1, zF1⟩ := (Blk.new w 23 #[.int .i64 b, .int .i64 s]).next hb1
  try simp at bF1 cF1 fF1 zF1
  have B1 := below_call (below_box (Below.refl w.heap.size w) _) hb1
  go_wp2_with fail
  refine bodyPost_ret (v := .tuple #[.int .i64 0, .bool false, .iface 67 (.int .i64 3)]) ?_ rfl ⟨rfl, ?_⟩
  · simp [results, Try.results22, go_sem]
  · exact B1

set_option maxHeartbeats 1000000 in
theorem Sub_yes (b s x y : Int) (h : okW b s x y) (w : World) : Calls Try.prog 24 #[.agg #[.int .i64 b, .int .i64 s], .int .i64 x, .int .i64 y] w fun e w' => e = .returned (.tuple #[.int .i64 (satV b (x - y)), .bool (satB b (x - y)), .nilIface]) ∧ Below w.heap.size w w' := by
  have hx := isW_le h.1.1 h.1.2.1 h.2.1
  have hy := isW_le h.1.1 h.1.2.1 h.2.2
  have hA := h.1.1
  have hB := h.1.2.1
  have e0 : IntKind.i64.wrap (x - y) = x - y := IntWalk.i64_in _ (by omega)
  go_enter Try.func24, Try.ntmps24
  go_wp2_with fail
  (with_reducible refine (both_yes b s x y h _).mono ?_)
  rintro e w1 ⟨rfl, hb1⟩
  obtain ⟨bF1, cF1, fF1, zF1⟩ := (Blk.new w 23 #[.int .i64 b, .int .i64 s]).next hb1
  try simp at bF1 cF1 fF1 zF1
  have B1 := below_call (below_box (Below.refl w.heap.size w) _) hb1
  go_wp2_with fail
  (with_reducible refine (saturate_any b s (x - y) hA hB _).mono ?_)
  rintro e w2 ⟨rfl, hb2⟩
  obtain ⟨bF2, cF2, fF2, zF2⟩ := (bF1).next hb2
  try simp at bF2 cF2 fF2 zF2
  have B2 := below_call (B1) hb2
  clear cF1 fF1 zF1
  go_wp2_with fail
  refine bodyPost_ret (v := .tuple #[.int .i64 (satV b (x - y)), .bool (satB b (x - y)), .nilIface]) ?_ rfl ⟨rfl, ?_⟩
  · simp [results, Try.results24, go_sem]
  · exact B2

set_option maxHeartbeats 1000000 in
theorem Sub_no (b s x y : Int) (h : ¬ okW b s x y) (w : World) : Calls Try.prog 24 #[.agg #[.int .i64 b, .int .i64 s], .int .i64 x, .int .i64 y] w fun e w' => e = .returned (.tuple #[.int .i64 0, .bool false, .iface 67 (.int .i64 3)]) ∧ Below w.heap.size w w' := by
  go_enter Try.func24, Try.ntmps24
  go_wp2_with fail
  (with_reducible refine (both_no b s x y h _).mono ?_)
  rintro e w1 ⟨rfl, hb1⟩
  obtain ⟨bF1, cF1, fF1, zF1⟩ := (Blk.new w 23 #[.int .i64 b, .int .i64 s]).next hb1
  try simp at bF1 cF1 fF1 zF1
  have B1 := below_call (below_box (Below.refl w.heap.size w) _) hb1
  go_wp2_with fail
  refine bodyPost_ret (v := .tuple #[.int .i64 0, .bool false, .iface 67 (.int .i64 3)]) ?_ rfl ⟨rfl, ?_⟩
  · simp [results, Try.results24, go_sem]
  · exact B1

set_option maxHeartbeats 1000000 in
theorem Mul_yes (b s x y : Int) (n : Nat) (m : Int) (h : okW b s x y) (hn : n ≤ 62) (hm : 0 ≤ m) (hm2 : m ≤ 3) (w : World) : Calls Try.prog 17 #[.agg #[.int .i64 b, .int .i64 s], .int .i64 x, .int .i64 y, .int .i64 n, .int .i64 m] w fun e w' => e = .returned (.tuple #[.int .i64 (satV b (rnd (x * y) n m)), .bool (satB b (rnd (x * y) n m)), .nilIface]) ∧ Below w.heap.size w w' := by
  have hx := isW_le h.1.1 h.1.2.1 h.2.1
  have hy := isW_le h.1.1 h.1.2.1 h.2.2
  have hp := mul_le hx hy
  have e0 : IntKind.i64.wrap (x * y) = x * y := IntWalk.i64_in _ (by omega)
  have RI := Lib.hid (right_any (x * y) n m hn (by omega) (by omega))
  have SA := Lib.hid (saturate_any b s (rnd (x * y) n m) h.1.1 h.1.2.1)
  obtain ⟨z, hz⟩ : ∃ z, rnd (x * y) n m = z := ⟨_, rfl⟩
  rw [hz] at RI SA
  go_enter Try.func17, Try.ntmps17
  go_wp2_with fail
  (with_reducible refine (both_yes b s x y h _).mono ?_)
  rintro e w1 ⟨rfl, hb1⟩
  obtain ⟨bF1, cF1, fF1, zF1⟩ := (Blk.new w 23 #[.int .i64 b, .int .i64 s]).next hb1
  try simp at bF1 cF1 fF1 zF1
  have B1 := below_call (below_box (Below.refl w.heap.size w) _) hb1
  go_wp2_with fail
  (with_reducible refine (within_yes _ _ _ (by omega) (by omega) _).mono ?_)
  rintro e w' ⟨rfl, rfl⟩
  go_wp2_with fail
  (with_reducible refine (mode_yes _ hm hm2 _).mono ?_)
  rintro e w' ⟨rfl, rfl⟩
  go_wp2_with fail
  have bD := bF1.drew
  go_region_held3 (fun w' => ∀ i, w'.cell? ⟨w.heap.size, i, none⟩ = (#[.int .i64 b, .int .i64 s] : Array Value)[i]?)
    (first
      | with_reducible exact bD.cell
      | with_reducible exact bE.cell
      | with_reducible exact bG.cell
      | fail)
    (first
      | (go_at_call 44; (with_reducible refine (RI.out _).mono ?_); rintro e w2 ⟨rfl, j, rfl⟩; have bE := bF1.drewN (1 + j); have BE := below_drewN B1 (1 + j))
      | (go_at_call 41; (with_reducible refine (SA.out _).mono ?_); rintro e w3 ⟨rfl, hb3⟩; obtain ⟨bG, cG, fG, zG⟩ := bE.next hb3; have BG := below_call BE hb3))
  go_wp2_with fail
  refine bodyPost_ret (v := .tuple #[.int .i64 (satV b z), .bool (satB b z), .nilIface]) ?_ rfl ⟨by rw [hz], ?_⟩
  · simp [results, Try.results17, go_sem]
  · exact BG

set_option maxHeartbeats 1000000 in
theorem Mul_no (b s x y n m : Int) (h : ¬ (okW b s x y ∧ (0 ≤ n ∧ n ≤ 62) ∧ 0 ≤ m ∧ m ≤ 3)) (w : World) : Calls Try.prog 17 #[.agg #[.int .i64 b, .int .i64 s], .int .i64 x, .int .i64 y, .int .i64 n, .int .i64 m] w fun e w' => e = .returned (.tuple #[.int .i64 0, .bool false, .iface 67 (.int .i64 3)]) ∧ Below w.heap.size w w' := by
  by_cases h0 : okW b s x y
  · by_cases h1 : 0 ≤ n ∧ n ≤ 62
    · have h3 : ¬ (0 ≤ m ∧ m ≤ 3) := fun hh => h ⟨h0, h1, hh⟩
      have h2 : m < 0 ∨ 3 < m := by omega
      go_enter Try.func17, Try.ntmps17
      go_wp2_with fail
      (with_reducible refine (both_yes b s x y h0 _).mono ?_)
      rintro e w1 ⟨rfl, hb1⟩
      obtain ⟨bF1, cF1, fF1, zF1⟩ := (Blk.new w 23 #[.int .i64 b, .int .i64 s]).next hb1
      try simp at bF1 cF1 fF1 zF1
      have B1 := below_call (below_box (Below.refl w.heap.size w) _) hb1
      go_wp2_with fail
      (with_reducible refine (within_yes _ _ _ h1.1 h1.2 _).mono ?_)
      rintro e w' ⟨rfl, rfl⟩
      go_wp2_with fail
      (with_reducible refine (mode_no _ h2 _).mono ?_)
      rintro e w' ⟨rfl, rfl⟩
      go_wp2_with fail
      refine bodyPost_ret (v := .tuple #[.int .i64 0, .bool false, .iface 67 (.int .i64 3)]) ?_ rfl ⟨rfl, ?_⟩
      · simp [results, Try.results17, go_sem]
      · exact B1
    · go_enter Try.func17, Try.ntmps17
      go_wp2_with fail
      (with_reducible refine (both_yes b s x y h0 _).mono ?_)
      rintro e w1 ⟨rfl, hb1⟩
      obtain ⟨bF1, cF1, fF1, zF1⟩ := (Blk.new w 23 #[.int .i64 b, .int .i64 s]).next hb1
      try simp at bF1 cF1 fF1 zF1
      have B1 := below_call (below_box (Below.refl w.heap.size w) _) hb1
      go_wp2_with fail
      (with_reducible refine (within_no _ _ _ (by omega) _).mono ?_)
      rintro e w' ⟨rfl, rfl⟩
      go_wp2_with fail
      refine bodyPost_ret (v := .tuple #[.int .i64 0, .bool false, .iface 67 (.int .i64 3)]) ?_ rfl ⟨rfl, ?_⟩
      · simp [results, Try.results17, go_sem]
      · exact B1
  · go_enter Try.func17, Try.ntmps17
    go_wp2_with fail
    (with_reducible refine (both_no b s x y h0 _).mono ?_)
    rintro e w1 ⟨rfl, hb1⟩
    obtain ⟨bF1, cF1, fF1, zF1⟩ := (Blk.new w 23 #[.int .i64 b, .int .i64 s]).next hb1
    try simp at bF1 cF1 fF1 zF1
    have B1 := below_call (below_box (Below.refl w.heap.size w) _) hb1
    go_wp2_with fail
    refine bodyPost_ret (v := .tuple #[.int .i64 0, .bool false, .iface 67 (.int .i64 3)]) ?_ rfl ⟨rfl, ?_⟩
    · simp [results, Try.results17, go_sem]
    · exact B1

set_option maxHeartbeats 1000000 in
theorem Shift_no (x n m : Int) (h : ¬ ((-62 ≤ n ∧ n ≤ 62) ∧ 0 ≤ m ∧ m ≤ 3)) (w : World) : Calls Try.prog 18 #[.int .i64 x, .int .i64 n, .int .i64 m] w fun e w' => e = .returned (.tuple #[.int .i64 0, .iface 67 (.int .i64 3)]) ∧ Below w.heap.size w w' := by
  by_cases h1 : -62 ≤ n ∧ n ≤ 62
  · have h2 : m < 0 ∨ 3 < m := by omega
    go_enter Try.func18, Try.ntmps18
    go_wp2_with fail
    (with_reducible refine (within_yes _ _ _ h1.1 h1.2 _).mono ?_)
    rintro e w' ⟨rfl, rfl⟩
    go_wp2_with fail
    (with_reducible refine (mode_no _ h2 _).mono ?_)
    rintro e w' ⟨rfl, rfl⟩
    go_wp2_with fail
    refine bodyPost_ret (v := .tuple #[.int .i64 0, .iface 67 (.int .i64 3)]) ?_ rfl ⟨rfl, ?_⟩
    · simp [results, Try.results18, go_sem]
    · exact Below.refl w.heap.size w
  · go_enter Try.func18, Try.ntmps18
    go_wp2_with fail
    (with_reducible refine (within_no _ _ _ (by omega) _).mono ?_)
    rintro e w' ⟨rfl, rfl⟩
    go_wp2_with fail
    refine bodyPost_ret (v := .tuple #[.int .i64 0, .iface 67 (.int .i64 3)]) ?_ rfl ⟨rfl, ?_⟩
    · simp [results, Try.results18, go_sem]
    · exact Below.refl w.heap.size w

set_option maxHeartbeats 1000000 in
theorem Shift_pos (x : Int) (n : Nat) (m : Int) (hn : n ≤ 62) (hm : 0 ≤ m) (hm2 : m ≤ 3) (hx : -9223372036854775808 ≤ x) (hx2 : x ≤ 9223372036854775807) (w : World) : Calls Try.prog 18 #[.int .i64 x, .int .i64 n, .int .i64 m] w fun e w' => e = .returned (.tuple #[.int .i64 (rnd x n m), .nilIface]) ∧ Below w.heap.size w w' := by
  go_enter Try.func18, Try.ntmps18
  go_wp2_with fail
  (with_reducible refine (within_yes _ _ _ (by omega) (by omega) _).mono ?_)
  rintro e w' ⟨rfl, rfl⟩
  go_wp2_with fail
  (with_reducible refine (mode_yes _ hm hm2 _).mono ?_)
  rintro e w' ⟨rfl, rfl⟩
  go_wp2_with fail
  (with_reducible refine (right_any x n m hn hx hx2 _).mono ?_)
  rintro e w1 ⟨rfl, j1, rfl⟩
  go_wp2_with fail
  refine bodyPost_ret (v := .tuple #[.int .i64 (rnd x n m), .nilIface]) ?_ rfl ⟨rfl, ?_⟩
  · simp [results, Try.results18, go_sem]
  · exact below_drewN (Below.refl w.heap.size w) _

end Go.Proofs.Ythldpmfobhemkaa
