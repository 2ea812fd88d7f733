/- The contracts of Convert and of the reference's. -/
import Derived.Test.YthldpmfobhemkaaLaw3
namespace Go.Proofs.Ythldpmfobhemkaa
open Go.RowKit

/-- A word moved to another format, before it is clipped. -/
def cnv (s t x m : Int) : Int := if t ≤ s then rnd x (min (s - t) 62).toNat m else x * 2 ^ (min (t - s) 32).toNat
theorem min_nat {d e : Int} (h : 0 ≤ d) (he : 0 ≤ e) : min d e = (((min d e).toNat : Nat) : Int) := by omega
theorem shl_le {x : Int} (hx : -2147483648 ≤ x ∧ x ≤ 2147483647) {k : Nat} (hk : k ≤ 32) : -9223372036854775808 ≤ x * 2 ^ k ∧ x * 2 ^ k ≤ 9223372036854775807 := by
  have h1 := p2 k
  have h2 := p2_le hk
  have e : (2 : Int) ^ 32 = 4294967296 := by decide
  constructor
  · have a : (-2147483648) * 2 ^ k ≤ x * 2 ^ k := Int.mul_le_mul_of_nonneg_right hx.1 (by omega)
    omega
  · have a : x * 2 ^ k ≤ 2147483647 * 2 ^ k := Int.mul_le_mul_of_nonneg_right hx.2 (by omega)
    omega

set_option maxHeartbeats 2000000 in
theorem Convert_dn (b s c t x m : Int) (h : okF b s) (h2 : okF c t) (hw : isW b x = true) (hm : 0 ≤ m) (hm2 : m ≤ 3) (hd : t ≤ s) (w : World) : Calls Try.prog 33 #[.agg #[.int .i64 b, .int .i64 s], .agg #[.int .i64 c, .int .i64 t], .int .i64 x, .int .i64 m] w fun e w' => e = .returned (.tuple #[.int .i64 (satV c (cnv s t x m)), .bool (satB c (cnv s t x m)), .nilIface]) ∧ Below w.heap.size w w' := by
  have hA := h2.1
  have hB := h2.2.1
  have hx := isW_le h.1 h.2.1 hw
  have hs := h.2.2
  have ht := h2.2.2
  obtain ⟨k, hk⟩ : ∃ k : Nat, min (s - t) 62 = k := ⟨_, min_nat (by omega) (by decide)⟩
  have ez : cnv s t x m = rnd x k m := by unfold cnv; rw [if_pos hd, hk]; rfl
  have hk62 : k ≤ 62 := by omega
  rw [ez]
  clear ez
  have RI := Lib.hid (right_any x k m hk62 (by omega) (by omega))
  obtain ⟨z, hz⟩ : ∃ z, rnd x k m = z := ⟨_, rfl⟩
  rw [hz] at RI ⊢
  clear hz
  have SA := Lib.hid (saturate_any c t z hA hB)
  have CY := Lib.hid (Check_yes b s h)
  have CT := Lib.hid (Check_yes c t h2)
  have IX := is_any b s x h.1 h.2.1
  rw [hw] at IX
  have IX := Lib.hid IX
  obtain ⟨d, hd1⟩ : ∃ d, s - t = d := ⟨_, rfl⟩
  have wd : IntKind.i64.wrap (s - t) = d := by rw [← hd1]; exact IntWalk.i64_in _ (by omega)
  have d1 : decide (0 ≤ d) = true := decide_eq_true (by omega)
  rw [hd1] at hk
  clear hd1
  go_enter Try.func33, Try.ntmps33
  go_wp2_with fail
  (with_reducible refine (CY.out _).mono ?_)
  rintro e w1 ⟨rfl, hb1⟩
  obtain ⟨bF1, cF1, fF1, zF1⟩ := ((Blk.new (w) 23 #[.int .i64 b, .int .i64 s]).alloc _).next hb1
  obtain ⟨bT1, cT1, fT1, zT1⟩ := (Blk.new ((w).alloc _) 23 #[.int .i64 c, .int .i64 t]).next hb1
  try simp at bF1 cF1 fF1 zF1 bT1 cT1 fT1 zT1
  have B1 := below_call (below_box (below_box (Below.refl w.heap.size w) _) _) hb1
  go_wp2_with fail
  (with_reducible refine (CT.out _).mono ?_)
  rintro e w2 ⟨rfl, hb2⟩
  obtain ⟨bF2, cF2, fF2, zF2⟩ := (bF1).next hb2
  obtain ⟨bT2, cT2, fT2, zT2⟩ := (bT1).next hb2
  try simp at bF2 cF2 fF2 zF2 bT2 cT2 fT2 zT2
  have B2 := below_call (B1) hb2
  clear cF1 fF1 zF1 cT1 fT1 zT1
  go_wp2_with fail
  (with_reducible refine (IX.out _).mono ?_)
  rintro e w3 ⟨rfl, hb3⟩
  obtain ⟨bF3, cF3, fF3, zF3⟩ := (bF2).next hb3
  obtain ⟨bT3, cT3, fT3, zT3⟩ := (bT2).next hb3
  try simp at bF3 cF3 fF3 zF3 bT3 cT3 fT3 zT3
  have B3 := below_call (B2) hb3
  clear cF2 fF2 zF2 cT2 fT2 zT2
  go_wp2_with fail
  (with_reducible refine (mode_yes _ hm hm2 _).mono ?_)
  rintro e w' ⟨rfl, rfl⟩
  go_wp2_with fail
  have bD := bT3.drew
  go_region_held3 (fun w' => ∀ i, w'.cell? ⟨w.heap.size + 1, i, none⟩ = (#[.int .i64 c, .int .i64 t] : Array Value)[i]?)
    (first
      | with_reducible exact bD.cell
      | with_reducible exact bE.cell
      | with_reducible exact bG.cell
      | fail)
    (first
      | (go_at_call 44; (with_reducible refine (RI.out _).mono ?_); rintro e w8 ⟨rfl, j, rfl⟩; have bE := bT3.drewN (1 + j); have BE := below_drewN B3 (1 + j))
      | (go_at_call 41; (with_reducible refine (SA.out _).mono ?_); rintro e w9 ⟨rfl, hb9⟩; obtain ⟨bG, cG, fG, zG⟩ := bE.next hb9; have BG := below_call BE hb9))
  go_wp2_with fail
  refine bodyPost_ret (v := .tuple #[.int .i64 (satV c z), .bool (satB c z), .nilIface]) ?_ rfl ⟨rfl, ?_⟩
  · simp [results, Try.results33, go_sem]
  · exact BG

set_option maxHeartbeats 2000000 in
theorem Convert_up (b s c t x m : Int) (h : okF b s) (h2 : okF c t) (hw : isW b x = true) (hm : 0 ≤ m) (hm2 : m ≤ 3) (hd : s < t) (w : World) : Calls Try.prog 33 #[.agg #[.int .i64 b, .int .i64 s], .agg #[.int .i64 c, .int .i64 t], .int .i64 x, .int .i64 m] w fun e w' => e = .returned (.tuple #[.int .i64 (satV c (cnv s t x m)), .bool (satB c (cnv s t x m)), .nilIface]) ∧ Below w.heap.size w w' := by
  have hA := h2.1
  have hB := h2.2.1
  have hx := isW_le h.1 h.2.1 hw
  have hs := h.2.2
  have ht := h2.2.2
  obtain ⟨k, hk⟩ : ∃ k : Nat, min (t - s) 32 = k := ⟨_, min_nat (by omega) (by decide)⟩
  have ez : cnv s t x m = x * 2 ^ k := by unfold cnv; rw [if_neg (by omega), hk]; rfl
  have hk32 : k ≤ 32 := by omega
  rw [ez]
  clear ez
  have zb := shl_le hx hk32
  have wz : IntKind.i64.wrap (x * 2 ^ k) = x * 2 ^ k := IntWalk.i64_in _ (by omega)
  obtain ⟨z, hz⟩ : ∃ z, x * 2 ^ k = z := ⟨_, rfl⟩
  rw [hz] at wz zb ⊢
  have hs0 : (0 : Int) ≤ (k : Int) := Int.natCast_nonneg _
  have hs1 : (k : Int) ≤ 64 := by omega
  have SA := Lib.hid (saturate_any c t z hA hB)
  have CY := Lib.hid (Check_yes b s h)
  have CT := Lib.hid (Check_yes c t h2)
  have IX := is_any b s x h.1 h.2.1
  rw [hw] at IX
  have IX := Lib.hid IX
  obtain ⟨d, hd1⟩ : ∃ d, s - t = d := ⟨_, rfl⟩
  have wd : IntKind.i64.wrap (s - t) = d := by rw [← hd1]; exact IntWalk.i64_in _ (by omega)
  have d1 : decide (0 ≤ d) = false := decide_eq_false (by omega)
  have wn : IntKind.i64.wrap (-d) = -d := IntWalk.i64_in _ (by omega)
  have hk : min (-d) 32 = (k : Int) := by rw [← hk]; omega
  clear hd1
  go_enter Try.func33, Try.ntmps33
  go_wp2_with fail
  (with_reducible refine (CY.out _).mono ?_)
  rintro e w1 ⟨rfl, hb1⟩
  obtain ⟨bF1, cF1, fF1, zF1⟩ := ((Blk.new (w) 23 #[.int .i64 b, .int .i64 s]).alloc _).next hb1
  obtain ⟨bT1, cT1, fT1, zT1⟩ := (Blk.new ((w).alloc _) 23 #[.int .i64 c, .int .i64 t]).next hb1
  try simp at bF1 cF1 fF1 zF1 bT1 cT1 fT1 zT1
  have B1 := below_call (below_box (below_box (Below.refl w.heap.size w) _) _) hb1
  go_wp2_with fail
  (with_reducible refine (CT.out _).mono ?_)
  rintro e w2 ⟨rfl, hb2⟩
  obtain ⟨bF2, cF2, fF2, zF2⟩ := (bF1).next hb2
  obtain ⟨bT2, cT2, fT2, zT2⟩ := (bT1).next hb2
  try simp at bF2 cF2 fF2 zF2 bT2 cT2 fT2 zT2
  have B2 := below_call (B1) hb2
  clear cF1 fF1 zF1 cT1 fT1 zT1
  go_wp2_with fail
  (with_reducible refine (IX.out _).mono ?_)
  rintro e w3 ⟨rfl, hb3⟩
  obtain ⟨bF3, cF3, fF3, zF3⟩ := (bF2).next hb3
  obtain ⟨bT3, cT3, fT3, zT3⟩ := (bT2).next hb3
  try simp at bF3 cF3 fF3 zF3 bT3 cT3 fT3 zT3
  have B3 := below_call (B2) hb3
  clear cF2 fF2 zF2 cT2 fT2 zT2
  go_wp2_with fail
  (with_reducible refine (mode_yes _ hm hm2 _).mono ?_)
  rintro e w' ⟨rfl, rfl⟩
  go_wp2_with fail
  have bD := bT3.drew
  go_region_held3 (fun w' => ∀ i, w'.cell? ⟨w.heap.size + 1, i, none⟩ = (#[.int .i64 c, .int .i64 t] : Array Value)[i]?)
    (first
      | with_reducible exact bD.cell
      | with_reducible exact bG.cell
      | fail)
    (first
      | (go_at_call 41; (with_reducible refine (SA.out _).mono ?_); rintro e w9 ⟨rfl, hb9⟩; obtain ⟨bG, cG, fG, zG⟩ := bD.next hb9; have BG := below_call B3.drew hb9))
  go_wp2_with fail
  refine bodyPost_ret (v := .tuple #[.int .i64 (satV c z), .bool (satB c z), .nilIface]) ?_ rfl ⟨rfl, ?_⟩
  · simp [results, Try.results33, go_sem]
  · exact BG

theorem Convert_yes (b s c t x m : Int) (h : okF b s) (h2 : okF c t) (hw : isW b x = true) (hm : 0 ≤ m) (hm2 : m ≤ 3) (w : World) : Calls Try.prog 33 #[.agg #[.int .i64 b, .int .i64 s], .agg #[.int .i64 c, .int .i64 t], .int .i64 x, .int .i64 m] w fun e w' => e = .returned (.tuple #[.int .i64 (satV c (cnv s t x m)), .bool (satB c (cnv s t x m)), .nilIface]) ∧ Below w.heap.size w w' := by
  by_cases hd : t ≤ s
  · exact Convert_dn b s c t x m h h2 hw hm hm2 hd w
  · exact Convert_up b s c t x m h h2 hw hm hm2 (by omega) w

set_option maxHeartbeats 1000000 in
theorem Convert_no (b s c t x m : Int) (h : ¬ (okF b s ∧ okF c t ∧ isW b x = true ∧ 0 ≤ m ∧ m ≤ 3)) (w : World) : Calls Try.prog 33 #[.agg #[.int .i64 b, .int .i64 s], .agg #[.int .i64 c, .int .i64 t], .int .i64 x, .int .i64 m] w fun e w' => e = .returned (.tuple #[.int .i64 0, .bool false, .iface 67 (.int .i64 3)]) ∧ Below w.heap.size w w' := by
  have five : (¬ okF b s) ∨ (okF b s ∧ ¬ okF c t) ∨ (okF b s ∧ okF c t ∧ isW b x = false) ∨ (okF b s ∧ okF c t ∧ isW b x = true ∧ (m < 0 ∨ 3 < m)) := by
    by_cases h0 : okF b s
    · by_cases h1 : okF c t
      · cases h2 : isW b x
        · exact .inr (.inr (.inl ⟨h0, h1, rfl⟩))
        · refine .inr (.inr (.inr ⟨h0, h1, rfl, ?_⟩))
          have : ¬ (0 ≤ m ∧ m ≤ 3) := fun hh => h ⟨h0, h1, h2, hh⟩
          omega
      · exact .inr (.inl ⟨h0, h1⟩)
    · exact .inl h0
  clear h
  rcases five with h0 | ⟨h0, h1⟩ | ⟨h0, h1, h2⟩ | ⟨h0, h1, h2, h3⟩
  · go_enter Try.func33, Try.ntmps33
    go_wp2_with fail
    (with_reducible refine (Check_no b s h0 _).mono ?_)
    rintro e w1 ⟨rfl, hb1⟩
    obtain ⟨bF1, cF1, fF1, zF1⟩ := ((Blk.new (w) 23 #[.int .i64 b, .int .i64 s]).alloc _).next hb1
    obtain ⟨bT1, cT1, fT1, zT1⟩ := (Blk.new ((w).alloc _) 23 #[.int .i64 c, .int .i64 t]).next hb1
    try simp at bF1 cF1 fF1 zF1 bT1 cT1 fT1 zT1
    have B1 := below_call (below_box (below_box (Below.refl w.heap.size w) _) _) hb1
    go_wp2_with fail
    refine bodyPost_ret (v := .tuple #[.int .i64 0, .bool false, .iface 67 (.int .i64 3)]) ?_ rfl ⟨rfl, ?_⟩
    · simp [results, Try.results33, go_sem]
    · exact B1
  · go_enter Try.func33, Try.ntmps33
    go_wp2_with fail
    (with_reducible refine (Check_yes b s h0 _).mono ?_)
    rintro e w1 ⟨rfl, hb1⟩
    obtain ⟨bF1, cF1, fF1, zF1⟩ := ((Blk.new (w) 23 #[.int .i64 b, .int .i64 s]).alloc _).next hb1
    obtain ⟨bT1, cT1, fT1, zT1⟩ := (Blk.new ((w).alloc _) 23 #[.int .i64 c, .int .i64 t]).next hb1
    try simp at bF1 cF1 fF1 zF1 bT1 cT1 fT1 zT1
    have B1 := below_call (below_box (below_box (Below.refl w.heap.size w) _) _) hb1
    go_wp2_with fail
    (with_reducible refine (Check_no c t h1 _).mono ?_)
    rintro e w2 ⟨rfl, hb2⟩
    obtain ⟨bF2, cF2, fF2, zF2⟩ := (bF1).next hb2
    obtain ⟨bT2, cT2, fT2, zT2⟩ := (bT1).next hb2
    try simp at bF2 cF2 fF2 zF2 bT2 cT2 fT2 zT2
    have B2 := below_call (B1) hb2
    clear cF1 fF1 zF1 cT1 fT1 zT1
    go_wp2_with fail
    refine bodyPost_ret (v := .tuple #[.int .i64 0, .bool false, .iface 67 (.int .i64 3)]) ?_ rfl ⟨rfl, ?_⟩
    · simp [results, Try.results33, go_sem]
    · exact B2
  · have IX := is_any b s x h0.1 h0.2.1
    rw [h2] at IX
    have IX := Lib.hid IX
    go_enter Try.func33, Try.ntmps33
    go_wp2_with fail
    (with_reducible refine (Check_yes b s h0 _).mono ?_)
    rintro e w1 ⟨rfl, hb1⟩
    obtain ⟨bF1, cF1, fF1, zF1⟩ := ((Blk.new (w) 23 #[.int .i64 b, .int .i64 s]).alloc _).next hb1
    obtain ⟨bT1, cT1, fT1, zT1⟩ := (Blk.new ((w).alloc _) 23 #[.int .i64 c, .int .i64 t]).next hb1
    try simp at bF1 cF1 fF1 zF1 bT1 cT1 fT1 zT1
    have B1 := below_call (below_box (below_box (Below.refl w.heap.size w) _) _) hb1
    go_wp2_with fail
    (with_reducible refine (Check_yes c t h1 _).mono ?_)
    rintro e w2 ⟨rfl, hb2⟩
    obtain ⟨bF2, cF2, fF2, zF2⟩ := (bF1).next hb2
    obtain ⟨bT2, cT2, fT2, zT2⟩ := (bT1).next hb2
    try simp at bF2 cF2 fF2 zF2 bT2 cT2 fT2 zT2
    have B2 := below_call (B1) hb2
    clear cF1 fF1 zF1 cT1 fT1 zT1
    go_wp2_with fail
    (with_reducible refine (IX.out _).mono ?_)
    rintro e w3 ⟨rfl, hb3⟩
    obtain ⟨bF3, cF3, fF3, zF3⟩ := (bF2).next hb3
    obtain ⟨bT3, cT3, fT3, zT3⟩ := (bT2).next hb3
    try simp at bF3 cF3 fF3 zF3 bT3 cT3 fT3 zT3
    have B3 := below_call (B2) hb3
    clear cF2 fF2 zF2 cT2 fT2 zT2
    go_wp2_with fail
    refine bodyPost_ret (v := .tuple #[.int .i64 0, .bool false, .iface 67 (.int .i64 3)]) ?_ rfl ⟨rfl, ?_⟩
    · simp [results, Try.results33, go_sem]
    · exact B3
  · have IX := is_any b s x h0.1 h0.2.1
    rw [h2] at IX
    have IX := Lib.hid IX
    go_enter Try.func33, Try.ntmps33
    go_wp2_with fail
    (with_reducible refine (Check_yes b s h0 _).mono ?_)
    rintro e w1 ⟨rfl, hb1⟩
    obtain ⟨bF1, cF1, fF1, zF1⟩ := ((Blk.new (w) 23 #[.int .i64 b, .int .i64 s]).alloc _).next hb1
    obtain ⟨bT1, cT1, fT1, zT1⟩ := (Blk.new ((w).alloc _) 23 #[.int .i64 c, .int .i64 t]).next hb1
    try simp at bF1 cF1 fF1 zF1 bT1 cT1 fT1 zT1
    have B1 := below_call (below_box (below_box (Below.refl w.heap.size w) _) _) hb1
    go_wp2_with fail
    (with_reducible refine (Check_yes c t h1 _).mono ?_)
    rintro e w2 ⟨rfl, hb2⟩
    obtain ⟨bF2, cF2, fF2, zF2⟩ := (bF1).next hb2
    obtain ⟨bT2, cT2, fT2, zT2⟩ := (bT1).next hb2
    try simp at bF2 cF2 fF2 zF2 bT2 cT2 fT2 zT2
    have B2 := below_call (B1) hb2
    clear cF1 fF1 zF1 cT1 fT1 zT1
    go_wp2_with fail
    (with_reducible refine (IX.out _).mono ?_)
    rintro e w3 ⟨rfl, hb3⟩
    obtain ⟨bF3, cF3, fF3, zF3⟩ := (bF2).next hb3
    obtain ⟨bT3, cT3, fT3, zT3⟩ := (bT2).next hb3
    try simp at bF3 cF3 fF3 zF3 bT3 cT3 fT3 zT3
    have B3 := below_call (B2) hb3
    clear cF2 fF2 zF2 cT2 fT2 zT2
    go_wp2_with fail
    (with_reducible refine (mode_no _ h3 _).mono ?_)
    rintro e w' ⟨rfl, rfl⟩
    go_wp2_with fail
    refine bodyPost_ret (v := .tuple #[.int .i64 0, .bool false, .iface 67 (.int .i64 3)]) ?_ rfl ⟨rfl, ?_⟩
    · simp [results, Try.results33, go_sem]
    · exact B3

set_option maxHeartbeats 1000000 in
theorem rConvert_no (b s c t x m : Int) (h : ¬ (okF b s ∧ okF c t ∧ isW b x = true ∧ 0 ≤ m ∧ m ≤ 3)) (w : World) : Calls Try.prog 34 #[.agg #[.int .i64 b, .int .i64 s], .agg #[.int .i64 c, .int .i64 t], .int .i64 x, .int .i64 m] w fun e w' => e = .returned (.tuple #[.int .i64 0, .bool false, .int .i64 3]) ∧ Below w.heap.size w w' := by
  have five : (¬ okF b s) ∨ (okF b s ∧ ¬ okF c t) ∨ (okF b s ∧ okF c t ∧ isW b x = false) ∨ (okF b s ∧ okF c t ∧ isW b x = true ∧ (m < 0 ∨ 3 < m)) := by
    by_cases h0 : okF b s
    · by_cases h1 : okF c t
      · cases h2 : isW b x
        · exact .inr (.inr (.inl ⟨h0, h1, rfl⟩))
        · refine .inr (.inr (.inr ⟨h0, h1, rfl, ?_⟩))
          have : ¬ (0 ≤ m ∧ m ≤ 3) := fun hh => h ⟨h0, h1, h2, hh⟩
          omega
      · exact .inr (.inl ⟨h0, h1⟩)
    · exact .inl h0
  clear h
  rcases five with h0 | ⟨h0, h1⟩ | ⟨h0, h1, h2⟩ | ⟨h0, h1, h2, h3⟩
  · go_enter Try.func34, Try.ntmps34
    go_wp2_with fail
    (with_reducible refine (rCheck_no b s h0 _).mono ?_)
    rintro e w1 ⟨rfl, hb1⟩
    obtain ⟨bF1, cF1, fF1, zF1⟩ := ((Blk.new (w) 23 #[.int .i64 b, .int .i64 s]).alloc _).next hb1
    obtain ⟨bT1, cT1, fT1, zT1⟩ := (Blk.new ((w).alloc _) 23 #[.int .i64 c, .int .i64 t]).next hb1
    try simp at bF1 cF1 fF1 zF1 bT1 cT1 fT1 zT1
    have B1 := below_call (below_box (below_box (Below.refl w.heap.size w) _) _) hb1
    go_wp2_with fail
    refine bodyPost_ret (v := .tuple #[.int .i64 0, .bool false, .int .i64 3]) ?_ rfl ⟨rfl, ?_⟩
    · simp [results, Try.results34, go_sem]
    · exact B1
  · go_enter Try.func34, Try.ntmps34
    go_wp2_with fail
    (with_reducible refine (rCheck_yes b s h0 _).mono ?_)
    rintro e w1 ⟨rfl, hb1⟩
    obtain ⟨bF1, cF1, fF1, zF1⟩ := ((Blk.new (w) 23 #[.int .i64 b, .int .i64 s]).alloc _).next hb1
    obtain ⟨bT1, cT1, fT1, zT1⟩ := (Blk.new ((w).alloc _) 23 #[.int .i64 c, .int .i64 t]).next hb1
    try simp at bF1 cF1 fF1 zF1 bT1 cT1 fT1 zT1
    have B1 := below_call (below_box (below_box (Below.refl w.heap.size w) _) _) hb1
    go_wp2_with fail
    (with_reducible refine (rCheck_no c t h1 _).mono ?_)
    rintro e w2 ⟨rfl, hb2⟩
    obtain ⟨bF2, cF2, fF2, zF2⟩ := (bF1).next hb2
    obtain ⟨bT2, cT2, fT2, zT2⟩ := (bT1).next hb2
    try simp at bF2 cF2 fF2 zF2 bT2 cT2 fT2 zT2
    have B2 := below_call (B1) hb2
    clear cF1 fF1 zF1 cT1 fT1 zT1
    go_wp2_with fail
    refine bodyPost_ret (v := .tuple #[.int .i64 0, .bool false, .int .i64 3]) ?_ rfl ⟨rfl, ?_⟩
    · simp [results, Try.results34, go_sem]
    · exact B2
  · have IX := rIs_yes b s x h0
    rw [h2] at IX
    have IX := Lib.hid IX
    go_enter Try.func34, Try.ntmps34
    go_wp2_with fail
    (with_reducible refine (rCheck_yes b s h0 _).mono ?_)
    rintro e w1 ⟨rfl, hb1⟩
    obtain ⟨bF1, cF1, fF1, zF1⟩ := ((Blk.new (w) 23 #[.int .i64 b, .int .i64 s]).alloc _).next hb1
    obtain ⟨bT1, cT1, fT1, zT1⟩ := (Blk.new ((w).alloc _) 23 #[.int .i64 c, .int .i64 t]).next hb1
    try simp at bF1 cF1 fF1 zF1 bT1 cT1 fT1 zT1
    have B1 := below_call (below_box (below_box (Below.refl w.heap.size w) _) _) hb1
    go_wp2_with fail
    (with_reducible refine (rCheck_yes c t h1 _).mono ?_)
    rintro e w2 ⟨rfl, hb2⟩
    obtain ⟨bF2, cF2, fF2, zF2⟩ := (bF1).next hb2
    obtain ⟨bT2, cT2, fT2, zT2⟩ := (bT1).next hb2
    try simp at bF2 cF2 fF2 zF2 bT2 cT2 fT2 zT2
    have B2 := below_call (B1) hb2
    clear cF1 fF1 zF1 cT1 fT1 zT1
    go_wp2_with fail
    (with_reducible refine (IX.out _).mono ?_)
    rintro e w3 ⟨rfl, hb3⟩
    obtain ⟨bF3, cF3, fF3, zF3⟩ := (bF2).next hb3
    obtain ⟨bT3, cT3, fT3, zT3⟩ := (bT2).next hb3
    try simp at bF3 cF3 fF3 zF3 bT3 cT3 fT3 zT3
    have B3 := below_call (B2) hb3
    clear cF2 fF2 zF2 cT2 fT2 zT2
    go_wp2_with fail
    refine bodyPost_ret (v := .tuple #[.int .i64 0, .bool false, .int .i64 3]) ?_ rfl ⟨rfl, ?_⟩
    · simp [results, Try.results34, go_sem]
    · exact B3
  · have IX := rIs_yes b s x h0
    rw [h2] at IX
    have IX := Lib.hid IX
    go_enter Try.func34, Try.ntmps34
    go_wp2_with fail
    (with_reducible refine (rCheck_yes b s h0 _).mono ?_)
    rintro e w1 ⟨rfl, hb1⟩
    obtain ⟨bF1, cF1, fF1, zF1⟩ := ((Blk.new (w) 23 #[.int .i64 b, .int .i64 s]).alloc _).next hb1
    obtain ⟨bT1, cT1, fT1, zT1⟩ := (Blk.new ((w).alloc _) 23 #[.int .i64 c, .int .i64 t]).next hb1
    try simp at bF1 cF1 fF1 zF1 bT1 cT1 fT1 zT1
    have B1 := below_call (below_box (below_box (Below.refl w.heap.size w) _) _) hb1
    go_wp2_with fail
    (with_reducible refine (rCheck_yes c t h1 _).mono ?_)
    rintro e w2 ⟨rfl, hb2⟩
    obtain ⟨bF2, cF2, fF2, zF2⟩ := (bF1).next hb2
    obtain ⟨bT2, cT2, fT2, zT2⟩ := (bT1).next hb2
    try simp at bF2 cF2 fF2 zF2 bT2 cT2 fT2 zT2
    have B2 := below_call (B1) hb2
    clear cF1 fF1 zF1 cT1 fT1 zT1
    go_wp2_with fail
    (with_reducible refine (IX.out _).mono ?_)
    rintro e w3 ⟨rfl, hb3⟩
    obtain ⟨bF3, cF3, fF3, zF3⟩ := (bF2).next hb3
    obtain ⟨bT3, cT3, fT3, zT3⟩ := (bT2).next hb3
    try simp at bF3 cF3 fF3 zF3 bT3 cT3 fT3 zT3
    have B3 := below_call (B2) hb3
    clear cF2 fF2 zF2 cT2 fT2 zT2
    go_wp2_with fail
    (with_reducible refine (rmode_no _ h3 _).mono ?_)
    rintro e w' ⟨rfl, rfl⟩
    go_wp2_with fail
    refine bodyPost_ret (v := .tuple #[.int .i64 0, .bool false, .int .i64 3]) ?_ rfl ⟨rfl, ?_⟩
    · simp [results, Try.results34, go_sem]
    · exact B3

set_option maxHeartbeats 2000000 in
theorem rConvert_dn (b s c t x m : Int) (h : okF b s) (h2 : okF c t) (hw : isW b x = true) (hm : 0 ≤ m) (hm2 : m ≤ 3) (hd : t ≤ s) (w : World) : Calls Try.prog 34 #[.agg #[.int .i64 b, .int .i64 s], .agg #[.int .i64 c, .int .i64 t], .int .i64 x, .int .i64 m] w fun e w' => e = .returned (.tuple #[.int .i64 (satV c (cnv s t x m)), .bool (satB c (cnv s t x m)), .int .i64 0]) ∧ Below w.heap.size w w' := by
  have hA := h2.1
  have hB := h2.2.1
  have hx := isW_le h.1 h.2.1 hw
  have hs := h.2.2
  have ht := h2.2.2
  obtain ⟨k, hk⟩ : ∃ k : Nat, min (s - t) 62 = k := ⟨_, min_nat (by omega) (by decide)⟩
  have ez : cnv s t x m = rnd x k m := by unfold cnv; rw [if_pos hd, hk]; rfl
  have hk62 : k ≤ 62 := by omega
  rw [ez]
  clear ez
  have RI := Lib.hid (Round_any x k m hk62 (by omega) (by omega))
  obtain ⟨z, hz⟩ : ∃ z, rnd x k m = z := ⟨_, rfl⟩
  rw [hz] at RI ⊢
  clear hz
  have SA := Lib.hid (rClip_any c t z hA hB)
  have CY := Lib.hid (rCheck_yes b s h)
  have CT := Lib.hid (rCheck_yes c t h2)
  have IX := rIs_yes b s x h
  rw [hw] at IX
  have IX := Lib.hid IX
  obtain ⟨d, hd1⟩ : ∃ d, t - s = d := ⟨_, rfl⟩
  have wd : IntKind.i64.wrap (t - s) = d := by rw [← hd1]; exact IntWalk.i64_in _ (by omega)
  have d1 : decide (d ≤ 0) = true := decide_eq_true (by omega)
  have wn : IntKind.i64.wrap (-d) = -d := IntWalk.i64_in _ (by omega)
  have hk : min (-d) 62 = (k : Int) := by rw [← hk]; omega
  clear hd1
  go_enter Try.func34, Try.ntmps34
  go_wp2_with fail
  (with_reducible refine (CY.out _).mono ?_)
  rintro e w1 ⟨rfl, hb1⟩
  obtain ⟨bF1, cF1, fF1, zF1⟩ := ((Blk.new (w) 23 #[.int .i64 b, .int .i64 s]).alloc _).next hb1
  obtain ⟨bT1, cT1, fT1, zT1⟩ := (Blk.new ((w).alloc _) 23 #[.int .i64 c, .int .i64 t]).next hb1
  try simp at bF1 cF1 fF1 zF1 bT1 cT1 fT1 zT1
  have B1 := below_call (below_box (below_box (Below.refl w.heap.size w) _) _) hb1
  go_wp2_with fail
  (with_reducible refine (CT.out _).mono ?_)
  rintro e w2 ⟨rfl, hb2⟩
  obtain ⟨bF2, cF2, fF2, zF2⟩ := (bF1).next hb2
  obtain ⟨bT2, cT2, fT2, zT2⟩ := (bT1).next hb2
  try simp at bF2 cF2 fF2 zF2 bT2 cT2 fT2 zT2
  have B2 := below_call (B1) hb2
  clear cF1 fF1 zF1 cT1 fT1 zT1
  go_wp2_with fail
  (with_reducible refine (IX.out _).mono ?_)
  rintro e w3 ⟨rfl, hb3⟩
  obtain ⟨bF3, cF3, fF3, zF3⟩ := (bF2).next hb3
  obtain ⟨bT3, cT3, fT3, zT3⟩ := (bT2).next hb3
  try simp at bF3 cF3 fF3 zF3 bT3 cT3 fT3 zT3
  have B3 := below_call (B2) hb3
  clear cF2 fF2 zF2 cT2 fT2 zT2
  go_wp2_with fail
  (with_reducible refine (rmode_yes _ hm hm2 _).mono ?_)
  rintro e w' ⟨rfl, rfl⟩
  go_wp2_with fail
  have bD := bT3.drew
  go_region_held3 (fun w' => ∀ i, w'.cell? ⟨w.heap.size + 1, i, none⟩ = (#[.int .i64 c, .int .i64 t] : Array Value)[i]?)
    (first
      | with_reducible exact bD.cell
      | with_reducible exact bG.cell
      | fail)
    (first
      | (go_at_call 46; (with_reducible refine (RI.out _).mono ?_); rintro e w' ⟨rfl, rfl⟩)
      | (go_at_call 30; (with_reducible refine (SA.out _).mono ?_); rintro e w9 ⟨rfl, hb9⟩; obtain ⟨bG, cG, fG, zG⟩ := bD.next hb9; have BG := below_call B3.drew hb9))
  go_wp2_with fail
  refine bodyPost_ret (v := .tuple #[.int .i64 (satV c z), .bool (satB c z), .int .i64 0]) ?_ rfl ⟨rfl, ?_⟩
  · simp [results, Try.results34, go_sem]
  · exact BG

theorem clip_far {c z v : Int} (h : 2 ≤ c) (h2 : c ≤ 32) (hz : v = z ∨ (2147483648 < v ∧ 2147483648 < z) ∨ (v < -2147483648 ∧ z < -2147483648)) : satV c v = satV c z ∧ satB c v = satB c z := by
  have hh := halfF_le h h2
  rcases hz with rfl | hz
  · exact ⟨rfl, rfl⟩
  · have e : satV c v = satV c z := by unfold satV; omega
    refine ⟨e, ?_⟩
    unfold satB
    have a : ¬ satV c v = v := by unfold satV; omega
    have b : ¬ satV c z = z := by unfold satV; omega
    have a2 : (satV c v == v) = false := beq_eq_false_iff_ne.2 a
    have b2 : (satV c z == z) = false := beq_eq_false_iff_ne.2 b
    rw [a2, b2]
theorem pow_pos_far {x : Int} {k : Nat} (h : 0 < x) (hk : 32 ≤ k) : 4294967296 ≤ x * 2 ^ k := by
  have h1 := p2_le hk
  have e : (2 : Int) ^ 32 = 4294967296 := by decide
  have a : 1 * 2 ^ k ≤ x * 2 ^ k := Int.mul_le_mul_of_nonneg_right (by omega) (by omega)
  omega
theorem dbl_pos {x : Int} (h : 0 < x) {n k : Nat} (hk : k ≤ n) (he : k = n ∨ x * 2 ^ k = 0 ∨ x * 2 ^ k ≤ -1099511627776 ∨ 1099511627776 ≤ x * 2 ^ k) : x * 2 ^ k = x * 2 ^ (min n 32) ∨ (2147483648 < x * 2 ^ k ∧ 2147483648 < x * 2 ^ (min n 32)) := by
  have h0 := p2 k
  have hp : 1 * 2 ^ k ≤ x * 2 ^ k := Int.mul_le_mul_of_nonneg_right (by omega) (by omega)
  rcases he with rfl | he | he | he
  · by_cases h2 : k ≤ 32
    · rw [Nat.min_eq_left h2]; exact .inl rfl
    · have := pow_pos_far h (show 32 ≤ k by omega)
      have := pow_pos_far h (show 32 ≤ min k 32 by omega)
      exact .inr ⟨by omega, by omega⟩
  · omega
  · omega
  · refine .inr ⟨by omega, ?_⟩
    by_cases h2 : 32 ≤ min n 32
    · have := pow_pos_far h h2; omega
    · have e : min n 32 = n := by omega
      have h3 : (2 : Int) ^ k ≤ 2 ^ (min n 32) := p2_le (by omega)
      have h4 : x * 2 ^ k ≤ x * 2 ^ (min n 32) := Int.mul_le_mul_of_nonneg_left h3 (by omega)
      omega
theorem dbl_end {x : Int} {n k : Nat} (hk : k ≤ n) (he : k = n ∨ x * 2 ^ k = 0 ∨ x * 2 ^ k ≤ -1099511627776 ∨ 1099511627776 ≤ x * 2 ^ k) : x * 2 ^ k = x * 2 ^ (min n 32) ∨ (2147483648 < x * 2 ^ k ∧ 2147483648 < x * 2 ^ (min n 32)) ∨ (x * 2 ^ k < -2147483648 ∧ x * 2 ^ (min n 32) < -2147483648) := by
  rcases Int.lt_trichotomy x 0 with h | rfl | h
  · have e1 : (-x) * 2 ^ k = -(x * 2 ^ k) := Int.neg_mul _ _
    have e2 : (-x) * 2 ^ (min n 32) = -(x * 2 ^ (min n 32)) := Int.neg_mul _ _
    have := dbl_pos (x := -x) (by omega) hk (by rw [e1]; omega)
    rw [e1, e2] at this
    omega
  · left; simp
  · have := dbl_pos h hk he
    omega

set_option maxHeartbeats 2000000 in
theorem rConvert_up (b s c t x m : Int) (h : okF b s) (h2 : okF c t) (hw : isW b x = true) (hm : 0 ≤ m) (hm2 : m ≤ 3) (hd : s < t) (w : World) : Calls Try.prog 34 #[.agg #[.int .i64 b, .int .i64 s], .agg #[.int .i64 c, .int .i64 t], .int .i64 x, .int .i64 m] w fun e w' => e = .returned (.tuple #[.int .i64 (satV c (cnv s t x m)), .bool (satB c (cnv s t x m)), .int .i64 0]) ∧ Below w.heap.size w w' := by
  have hA := h2.1
  have hB := h2.2.1
  have hx := isW_le h.1 h.2.1 hw
  have hs := h.2.2
  have ht := h2.2.2
  have CY := Lib.hid (rCheck_yes b s h)
  have CT := Lib.hid (rCheck_yes c t h2)
  have IX := rIs_yes b s x h
  rw [hw] at IX
  have IX := Lib.hid IX
  obtain ⟨n, hn⟩ : ∃ n : Nat, t - s = n := ⟨(t - s).toNat, by omega⟩
  have ez : cnv s t x m = x * 2 ^ (min n 32) := by
    unfold cnv
    rw [if_neg (by omega), hn]
    congr 2
    omega
  rw [ez]
  clear ez
  obtain ⟨z, hz⟩ : ∃ z, x * 2 ^ (min n 32) = z := ⟨_, rfl⟩
  rw [hz]
  have HZ := Lib.hid hz
  clear hz
  have wd : IntKind.i64.wrap (t - s) = n := by rw [← hn]; exact IntWalk.i64_in _ (by omega)
  have d1 : decide ((n : Int) ≤ 0) = false := decide_eq_false (by omega)
  have d2 : decide (n ≤ 0) = false := decide_eq_false (by omega)
  have d3 : decide (n = 0) = false := decide_eq_false (by omega)
  have d4 : (n == 0) = false := by simp; omega
  have d5 : ¬ n = 0 := by omega
  have hn130 : n ≤ 130 := by omega
  clear hn
  go_enter Try.func34, Try.ntmps34
  go_wp2_with fail
  (with_reducible refine (CY.out _).mono ?_)
  rintro e w1 ⟨rfl, hb1⟩
  obtain ⟨bF1, cF1, fF1, zF1⟩ := ((Blk.new (w) 23 #[.int .i64 b, .int .i64 s]).alloc _).next hb1
  obtain ⟨bT1, cT1, fT1, zT1⟩ := (Blk.new ((w).alloc _) 23 #[.int .i64 c, .int .i64 t]).next hb1
  try simp at bF1 cF1 fF1 zF1 bT1 cT1 fT1 zT1
  have B1 := below_call (below_box (below_box (Below.refl w.heap.size w) _) _) hb1
  go_wp2_with fail
  (with_reducible refine (CT.out _).mono ?_)
  rintro e w2 ⟨rfl, hb2⟩
  obtain ⟨bF2, cF2, fF2, zF2⟩ := (bF1).next hb2
  obtain ⟨bT2, cT2, fT2, zT2⟩ := (bT1).next hb2
  try simp at bF2 cF2 fF2 zF2 bT2 cT2 fT2 zT2
  have B2 := below_call (B1) hb2
  clear cF1 fF1 zF1 cT1 fT1 zT1
  go_wp2_with fail
  (with_reducible refine (IX.out _).mono ?_)
  rintro e w3 ⟨rfl, hb3⟩
  obtain ⟨bF3, cF3, fF3, zF3⟩ := (bF2).next hb3
  obtain ⟨bT3, cT3, fT3, zT3⟩ := (bT2).next hb3
  try simp at bF3 cF3 fF3 zF3 bT3 cT3 fT3 zT3
  have B3 := below_call (B2) hb3
  clear cF2 fF2 zF2 cT2 fT2 zT2
  go_wp2_with fail
  (with_reducible refine (rmode_yes _ hm hm2 _).mono ?_)
  rintro e w' ⟨rfl, rfl⟩
  go_wp2_with fail
  go_loop [14, 15] (fun y i => ∃ (k : Nat) (v : Int), k ≤ n ∧ i = .int .i64 k ∧ y = .int .i64 v ∧ (-2199023255552 ≤ v ∧ v ≤ 2199023255552) ∧ Hid (x * 2 ^ k = v)) (fun _ i => (n - intOf i).toNat)
  case atStart => exact ⟨0, x, by omega, rfl, rfl, by omega, Lib.hid (by simp)⟩
  case round =>
    obtain ⟨k, v, hkn, rfl, rfl, hv, hxv⟩ := hrel
    by_cases go : (k : Int) < n ∧ ¬ v = 0 ∧ -1099511627776 < v ∧ v < 1099511627776
    · obtain ⟨h1, h2, h3, h4⟩ := go
      have g1 : decide ((k : Int) < n) = true := decide_eq_true h1
      have g2 : decide (k < n) = true := decide_eq_true (by omega)
      have g3 : (v == 0) = false := beq_eq_false_iff_ne.2 h2
      have g4 : (v != 0) = true := by simp [h2]
      have g5 : decide (-1099511627776 < v) = true := decide_eq_true h3
      have g6 : decide (v < 1099511627776) = true := decide_eq_true h4
      have wv : IntKind.i64.wrap (v * 2) = v * 2 := IntWalk.i64_in _ (by omega)
      have hx2 : Hid (x * 2 ^ (k + 1) = v * 2) := Lib.hid (by rw [← hxv.out, Int.pow_succ, Int.mul_assoc])
      clear h2
      go_wp2_with fail
      exact ⟨⟨k + 1, v * 2, by omega, by go_num, rfl, by omega, hx2⟩, by simp [intOf]; omega⟩
    · have he := dbl_end (x := x) hkn (by rw [hxv.out]; omega)
      rw [hxv.out, HZ.out] at he
      have SA := rClip_any c t v hA hB
      rw [(clip_far hA hB he).1, (clip_far hA hB he).2] at SA
      have SA := Lib.hid SA
      clear he
      have four : (decide ((k : Int) < n) = false ∧ decide (k < n) = false) ∨ ((decide ((k : Int) < n) = true ∧ decide (k < n) = true) ∧ v = 0) ∨ ((decide ((k : Int) < n) = true ∧ decide (k < n) = true) ∧ ((v == 0) = false ∧ (v != 0) = true) ∧ decide (-1099511627776 < v) = false) ∨ ((decide ((k : Int) < n) = true ∧ decide (k < n) = true) ∧ ((v == 0) = false ∧ (v != 0) = true) ∧ decide (-1099511627776 < v) = true ∧ decide (v < 1099511627776) = false) := by
        simp only [decide_eq_true_eq, decide_eq_false_iff_not, beq_eq_false_iff_ne, bne_iff_ne, ne_eq]
        omega
      clear go
      rcases four with ⟨g1, g2⟩ | ⟨⟨g1, g2⟩, rfl⟩ | ⟨⟨g1, g2⟩, ⟨g3, g4⟩, g5⟩ | ⟨⟨g1, g2⟩, ⟨g3, g4⟩, g5, g6⟩
      all_goals
        go_wp2_with fail
        (with_reducible refine (SA.out _).mono ?_)
        rintro e w9 ⟨rfl, hb9⟩
        have BG := below_call B3 hb9
        go_wp2_with fail
        refine bodyPost_ret (v := .tuple #[.int .i64 (satV c z), .bool (satB c z), .int .i64 0]) ?_ rfl ⟨rfl, ?_⟩
        · simp [results, Try.results34, go_sem]
        · exact BG

theorem rConvert_yes (b s c t x m : Int) (h : okF b s) (h2 : okF c t) (hw : isW b x = true) (hm : 0 ≤ m) (hm2 : m ≤ 3) (w : World) : Calls Try.prog 34 #[.agg #[.int .i64 b, .int .i64 s], .agg #[.int .i64 c, .int .i64 t], .int .i64 x, .int .i64 m] w fun e w' => e = .returned (.tuple #[.int .i64 (satV c (cnv s t x m)), .bool (satB c (cnv s t x m)), .int .i64 0]) ∧ Below w.heap.size w w' := by
  by_cases hd : t ≤ s
  · exact rConvert_dn b s c t x m h h2 hw hm hm2 hd w
  · exact rConvert_up b s c t x m h h2 hw hm hm2 (by omega) w

end Go.Proofs.Ythldpmfobhemkaa
