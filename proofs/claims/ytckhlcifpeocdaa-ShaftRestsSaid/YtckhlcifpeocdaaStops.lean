/- ShaftStops: the walks. -/
import Derived.Test.YtckhlcifpeocdaaStop
namespace Go.Proofs.Ytckhlcifpeocdaa
open Go.RowKit

/-- The absolute value of a clipped speed. -/
def sz (v : Int) : Int := max (clS v) (-clS v)
theorem sz_le (v : Int) : 0 ≤ sz v ∧ sz v ≤ 1073741824 := by have := clS_le v; unfold sz; omega
theorem clS_nV (G D R v t l : Int) : clS (nV G D R v t l) = nV G D R v t l := by have := nV_le G D R v t l; unfold clS; omega
theorem netI_same (l : Int) : netI l l = 0 := by unfold netI; omega
theorem sz_next {G D R : Int} (h : okC G D R) (v l : Int) : sz (nV G D R v l l) ≤ max 0 (sz v - dec G R) := by
  have hc := clS_le v
  have e : sz (nV G D R v l l) = max (nV G D R v l l) (-nV G D R v l l) := by unfold sz; rw [clS_nV]
  rw [e]
  unfold nV
  rw [netI_same]
  exact spd_stop h.1 h.2.2.2.2.1 hc.1 hc.2
theorem stop_mul (v : Int) {k : Int} (hk : 0 < k) : sz v ≤ stopN v k * k := by
  have hc := sz_le v
  have h0 : 0 ≤ max (clS v) (-clS v) + k - 1 := by unfold sz at hc; omega
  have e : stopN v k = (sz v + k - 1) / k := by unfold stopN sz; rw [Int.tdiv_eq_ediv_of_nonneg h0]
  rw [e]
  have h1 := Int.emod_add_mul_ediv (sz v + k - 1) k
  have h2 := Int.emod_lt_of_pos (sz v + k - 1) hk
  have h3 := Int.emod_nonneg (sz v + k - 1) (by omega : k ≠ 0)
  rw [Int.mul_comm] at h1
  omega
/-- One more round. -/
theorem stops_step {G D R : Int} (h : okC G D R) {v0 v l : Int} {k : Nat} (hi : sz v ≤ max 0 (sz v0 - k * dec G R)) : sz (nV G D R v l l) ≤ max 0 (sz v0 - ((k + 1 : Nat) : Int) * dec G R) := by
  have h1 := sz_next h v l
  have h2 := dec_le h
  have e : ((k + 1 : Nat) : Int) * dec G R = k * dec G R + dec G R := by rw [Int.natCast_add, Int.add_mul]; simp
  rw [e]
  omega
theorem stops_null {G D R : Int} (h : okC G D R) (hk : dec G R ≠ 0) {v0 v : Int} {k : Nat} (hi : sz v ≤ max 0 (sz v0 - k * dec G R)) (hn : stopN v0 (dec G R) ≤ k) : v = 0 := by
  have h2 := dec_le h
  have h3 := stop_mul v0 (k := dec G R) (by omega)
  have h4 : stopN v0 (dec G R) * dec G R ≤ k * dec G R := Int.mul_le_mul_of_nonneg_right hn (by omega)
  have h5 := sz_le v
  have : sz v = 0 := by omega
  unfold sz clS at this
  omega

set_option maxHeartbeats 2000000 in
theorem stops_no {G D R : Int} (p v l : Int) (h : ¬ okC G D R) (w : World) : Calls Try.prog 10 #[.agg #[.int .i64 G, .int .i64 D, .int .i64 R], .agg #[.int .i64 p, .int .i64 v], .int .i64 l] w fun e w' => e = .returned (.bool true) ∧ Below w.heap.size w w' := by
  go_enter Try.func10, Try.ntmps10
  go_wp2_with fail
  (with_reducible refine (awake_any _).mono ?_)
  rintro e w1 ⟨rfl, hb1⟩
  obtain ⟨c1, cc1, fc1, zc1⟩ := ((Blk.new (w) 23 #[.int .i64 G, .int .i64 D, .int .i64 R]).alloc _).next hb1
  obtain ⟨s1, cs1, fs1, zs1⟩ := (Blk.new ((w).alloc _) 32 #[.int .i64 p, .int .i64 v]).next hb1
  try simp at c1 cc1 fc1 zc1 s1 cs1 fs1 zs1
  have B1 := below_call (below_box (below_box (Below.refl w.heap.size w) _) _) hb1
  go_wp2_with fail
  (with_reducible refine (Check_no _ _ _ h _).mono ?_)
  rintro e w2 ⟨rfl, hb2⟩
  obtain ⟨c2, cc2, fc2, zc2⟩ := (c1).next hb2
  obtain ⟨s2, cs2, fs2, zs2⟩ := (s1).next hb2
  try simp at c2 cc2 fc2 zc2 s2 cs2 fs2 zs2
  have B2 := below_call (B1) hb2
  clear cc1 fc1 zc1 cs1 fs1 zs1
  go_wp2_with fail
  (with_reducible refine (awake_any _).mono ?_)
  rintro e w3 ⟨rfl, hb3⟩
  obtain ⟨c3, cc3, fc3, zc3⟩ := (c2).next hb3
  obtain ⟨s3, cs3, fs3, zs3⟩ := (s2).next hb3
  try simp at c3 cc3 fc3 zc3 s3 cs3 fs3 zs3
  have B3 := below_call (B2) hb3
  clear cc2 fc2 zc2 cs2 fs2 zs2
  go_wp2_with fail
  go_ret
  exact ⟨rfl, B3⟩

theorem is_22 (w : World) : Calls Try.prog 28 #[.iface 54 (.int .i64 22), .int .i64 22] w fun e w' => e = .returned (.bool true) ∧ w = w' := is_any 22 22 w
set_option maxHeartbeats 2000000 in
theorem stops_null_any {G D R : Int} (p v l : Int) (h : okC G D R) (hk : dec G R = 0) (w : World) : Calls Try.prog 10 #[.agg #[.int .i64 G, .int .i64 D, .int .i64 R], .agg #[.int .i64 p, .int .i64 v], .int .i64 l] w fun e w' => e = .returned (.bool true) ∧ Below w.heap.size w w' := by
  go_enter Try.func10, Try.ntmps10
  go_wp2_with fail
  (with_reducible refine (awake_any _).mono ?_)
  rintro e w1 ⟨rfl, hb1⟩
  obtain ⟨c1, cc1, fc1, zc1⟩ := ((Blk.new (w) 23 #[.int .i64 G, .int .i64 D, .int .i64 R]).alloc _).next hb1
  obtain ⟨s1, cs1, fs1, zs1⟩ := (Blk.new ((w).alloc _) 32 #[.int .i64 p, .int .i64 v]).next hb1
  try simp at c1 cc1 fc1 zc1 s1 cs1 fs1 zs1
  have B1 := below_call (below_box (below_box (Below.refl w.heap.size w) _) _) hb1
  go_wp2_with fail
  (with_reducible refine (Check_yes _ _ _ h _).mono ?_)
  rintro e w2 ⟨rfl, hb2⟩
  obtain ⟨c2, cc2, fc2, zc2⟩ := (c1).next hb2
  obtain ⟨s2, cs2, fs2, zs2⟩ := (s1).next hb2
  try simp at c2 cc2 fc2 zc2 s2 cs2 fs2 zs2
  have B2 := below_call (B1) hb2
  clear cc1 fc1 zc1 cs1 fs1 zs1
  go_wp2_with fail
  (with_reducible refine (Stop_null _ _ h hk _).mono ?_)
  rintro e w3 ⟨rfl, hb3⟩
  obtain ⟨c3, cc3, fc3, zc3⟩ := (c2).next hb3
  obtain ⟨s3, cs3, fs3, zs3⟩ := (s2).next hb3
  try simp at c3 cc3 fc3 zc3 s3 cs3 fs3 zs3
  have B3 := below_call (B2) hb3
  clear cc2 fc2 zc2 cs2 fs2 zs2
  go_wp2_with fail
  (with_reducible refine (is_22 _).mono ?_)
  rintro e w' ⟨rfl, rfl⟩
  go_wp2_with fail
  go_ret
  exact ⟨rfl, B3⟩

set_option maxHeartbeats 2000000 in
theorem stops_far {G D R : Int} (p v l : Int) (h : okC G D R) (hk : dec G R ≠ 0) (hn : 2000 < stopN v (dec G R)) (w : World) : Calls Try.prog 10 #[.agg #[.int .i64 G, .int .i64 D, .int .i64 R], .agg #[.int .i64 p, .int .i64 v], .int .i64 l] w fun e w' => e = .returned (.bool true) ∧ Below w.heap.size w w' := by
  go_enter Try.func10, Try.ntmps10
  go_wp2_with fail
  (with_reducible refine (awake_any _).mono ?_)
  rintro e w1 ⟨rfl, hb1⟩
  obtain ⟨c1, cc1, fc1, zc1⟩ := ((Blk.new (w) 23 #[.int .i64 G, .int .i64 D, .int .i64 R]).alloc _).next hb1
  obtain ⟨s1, cs1, fs1, zs1⟩ := (Blk.new ((w).alloc _) 32 #[.int .i64 p, .int .i64 v]).next hb1
  try simp at c1 cc1 fc1 zc1 s1 cs1 fs1 zs1
  have B1 := below_call (below_box (below_box (Below.refl w.heap.size w) _) _) hb1
  go_wp2_with fail
  (with_reducible refine (Check_yes _ _ _ h _).mono ?_)
  rintro e w2 ⟨rfl, hb2⟩
  obtain ⟨c2, cc2, fc2, zc2⟩ := (c1).next hb2
  obtain ⟨s2, cs2, fs2, zs2⟩ := (s1).next hb2
  try simp at c2 cc2 fc2 zc2 s2 cs2 fs2 zs2
  have B2 := below_call (B1) hb2
  clear cc1 fc1 zc1 cs1 fs1 zs1
  go_wp2_with fail
  (with_reducible refine (Stop_yes _ _ h hk _).mono ?_)
  rintro e w3 ⟨rfl, hb3⟩
  obtain ⟨c3, cc3, fc3, zc3⟩ := (c2).next hb3
  obtain ⟨s3, cs3, fs3, zs3⟩ := (s2).next hb3
  try simp at c3 cc3 fc3 zc3 s3 cs3 fs3 zs3
  have B3 := below_call (B2) hb3
  clear cc2 fc2 zc2 cs2 fs2 zs2
  go_wp2_with fail
  go_ret
  exact ⟨rfl, B3⟩

set_option maxHeartbeats 4000000 in
theorem stops_near {G D R : Int} (p v l n : Int) (h : okC G D R) (hk : dec G R ≠ 0) (hn : Hid (stopN v (dec G R) = n)) (hn0 : 0 ≤ n) (hn2 : n ≤ 2000) (w : World) : Calls Try.prog 10 #[.agg #[.int .i64 G, .int .i64 D, .int .i64 R], .agg #[.int .i64 p, .int .i64 v], .int .i64 l] w fun e w' => e = .returned (.bool true) ∧ Below w.heap.size w w' := by
  have HH := Lib.hid h
  have HK := Lib.hid hk
  have HS := Lib.hid (Stop_yes (D := D) p v h hk)
  rw [hn.out] at HS
  clear h hk
  go_enter Try.func10, Try.ntmps10
  go_wp2_with fail
  (with_reducible refine (awake_any _).mono ?_)
  rintro e w1 ⟨rfl, hb1⟩
  obtain ⟨c1, cc1, fc1, zc1⟩ := ((Blk.new (w) 23 #[.int .i64 G, .int .i64 D, .int .i64 R]).alloc _).next hb1
  obtain ⟨s1, cs1, fs1, zs1⟩ := (Blk.new ((w).alloc _) 32 #[.int .i64 p, .int .i64 v]).next hb1
  try simp at c1 cc1 fc1 zc1 s1 cs1 fs1 zs1
  have B1 := below_call (below_box (below_box (Below.refl w.heap.size w) _) _) hb1
  go_wp2_with fail
  (with_reducible refine (Check_yes _ _ _ HH.out _).mono ?_)
  rintro e w2 ⟨rfl, hb2⟩
  obtain ⟨c2, cc2, fc2, zc2⟩ := (c1).next hb2
  obtain ⟨s2, cs2, fs2, zs2⟩ := (s1).next hb2
  try simp at c2 cc2 fc2 zc2 s2 cs2 fs2 zs2
  have B2 := below_call (B1) hb2
  clear cc1 fc1 zc1 cs1 fs1 zs1
  go_wp2_with fail
  (with_reducible refine (HS.out _).mono ?_)
  rintro e w3 ⟨rfl, hb3⟩
  obtain ⟨c3, cc3, fc3, zc3⟩ := (c2).next hb3
  obtain ⟨s3, cs3, fs3, zs3⟩ := (s2).next hb3
  try simp at c3 cc3 fc3 zc3 s3 cs3 fs3 zs3
  have B3 := below_call (B2) hb3
  clear cc2 fc2 zc2 cs2 fs2 zs2
  go_wp2_with fail
  go_loopw [9] (fun i wr => ∃ (k : Nat) (p1 v1 : Int), (k : Int) ≤ n + 2 ∧ i = .int .i64 k ∧ Blk wr w.heap.size 23 #[.int .i64 G, .int .i64 D, .int .i64 R] ∧ Blk wr (w.heap.size + 1) 32 #[.int .i64 p1, .int .i64 v1] ∧ Below w.heap.size w wr ∧ Hid (sz v1 ≤ max 0 (sz v - k * dec G R)))
    (fun i _ => (n + 2 - intOf i).toNat)
  case atStart => exact ⟨0, p, v, by omega, rfl, c3, s3, B3, Lib.hid (by have := sz_le v; simp; omega)⟩
  case round =>
    obtain ⟨k, p1, v1, hk, rfl, c10, s10, B10, hi⟩ := hrel
    have cc10 := c10.cell
    have fc10 := c10.frozen
    have zc10 := c10.lt
    have cs10 := s10.cell
    have fs10 := s10.frozen
    have zs10 := s10.lt
    by_cases hlt : (k : Int) < n + 2
    · have hi2 := Lib.hid (stops_step HH.out (l := l) hi.out)
      have two : ((k : Int) < n - 1) ∨ (n - 1 ≤ (k : Int) ∧ nV G D R v1 l l = 0) := by
        by_cases hh : (k : Int) < n - 1
        · exact .inl hh
        · exact .inr ⟨by omega, stops_null HH.out HK.out hi2.out (by have := hn.out; omega)⟩
      have hv := nV_le G D R v1 l l
      obtain ⟨p2, hp2⟩ : ∃ p2, nP G D R p1 v1 l l = p2 := ⟨_, rfl⟩
      have ST := Lib.hid (Step_yes p1 v1 l l HH.out)
      rw [hp2] at ST
      clear hp2
      generalize nV G D R v1 l l = v2 at *
      rcases two with h1 | ⟨h1, rfl⟩
      all_goals
        go_wp2_with fail
        (with_reducible refine (ST.out _).mono ?_)
        rintro e w11 ⟨rfl, hb11⟩
        obtain ⟨c11, cc11, fc11, zc11⟩ := (c10).next hb11
        obtain ⟨s11, cs11, fs11, zs11⟩ := (s10).next hb11
        try simp at c11 cc11 fc11 zc11 s11 cs11 fs11 zs11
        have B11 := below_call (B10) hb11
        clear cc10 fc10 zc10 cs10 fs10 zs10
        go_wp2_with fail
        exact ⟨⟨k + 1, _, _, by omega, by go_num, ((c11.far (p := ⟨w.heap.size + 1, 0, none⟩) (by simp) _).far (p := ⟨w.heap.size + 1, 1, none⟩) (by simp) _).alloc _, ((s11.put 0 _).put 1 _).alloc _, below_box (below_set (below_set B11 (by simp) _) (by simp) _) _, hi2⟩, by simp [intOf]; omega⟩
    · have hz := stops_null HH.out HK.out hi.out (by have := hn.out; omega)
      subst hz
      go_wp2_with fail
      go_ret
      exact ⟨rfl, B10⟩
theorem stops_any (G D R p v l : Int) (w : World) : Calls Try.prog 10 #[.agg #[.int .i64 G, .int .i64 D, .int .i64 R], .agg #[.int .i64 p, .int .i64 v], .int .i64 l] w fun e w' => e = .returned (.bool true) ∧ Below w.heap.size w w' := by
  by_cases h : okC G D R
  · by_cases hk : dec G R = 0
    · exact stops_null_any p v l h hk w
    · have h0 := stop_le v (k := dec G R) (by have := dec_le h; omega) (dec_le h).2.2.2
      by_cases hn : 2000 < stopN v (dec G R)
      · exact stops_far p v l h hk hn w
      · exact stops_near p v l _ h hk (Lib.hid rfl) h0.1 (by omega) w
  · exact stops_no p v l h w

end Go.Proofs.Ytckhlcifpeocdaa
