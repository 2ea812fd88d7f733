/- HandoverReaches: behind a source that moves evenly the distance never grows nor changes its side, and it is 0 after Left ticks and not earlier. -/
import Derived.Test.YtifdgcenpnnciaaTurns
import Derived.LoopTactic
namespace Go.Proofs.Ytifdgcenpnnciaa
open Go.RowKit

/-- The distance after k ticks. -/
def dAt (d m : Int) (k : Nat) : Int := if 0 ≤ d then max 0 (d - k * m) else min 0 (d + k * m)

theorem dAt_zero (d m : Int) : dAt d m 0 = d := by
  unfold dAt; split <;> omega
theorem dAt_succ {d m : Int} (hm : 1 ≤ m) (k : Nat) : dAt d m (k + 1) = dAt d m k - max (-m) (min (dAt d m k) m) := by
  have e : ((k + 1 : Nat) : Int) * m = k * m + m := by rw [Int.natCast_add, Int.add_mul]; simp
  have hp : 0 ≤ (k : Int) * m := Int.mul_nonneg (by omega) (by omega)
  unfold dAt
  rw [e]
  generalize (k : Int) * m = p at *
  split <;> omega
theorem dAt_null {d m : Int} (hm : 1 ≤ m) (k : Nat) : dAt d m k = 0 ↔ max d (-d) ≤ k * m := by
  have hp : 0 ≤ (k : Int) * m := Int.mul_nonneg (by omega) (by omega)
  unfold dAt
  generalize (k : Int) * m = p at *
  split <;> omega
theorem lN_le {d m : Int} (hm : 1 ≤ m) (hm2 : m ≤ 1073741824) (k : Nat) : lN m d ≤ k ↔ max d (-d) ≤ k * m := by
  have hp : 0 ≤ (k : Int) * m := Int.mul_nonneg (by omega) (by omega)
  by_cases h : max d (-d) = 0
  · rw [(lN_here (by omega) hm2 h).1]; omega
  · rw [(lN_far (by omega) hm2 h).1]
    have e : ((k : Int) + 1) * m = k * m + m := by rw [Int.add_mul]; simp
    have := Int.ediv_lt_iff_lt_mul (a := max d (-d) + m - 1) (b := (k : Int) + 1) (c := m) (by omega)
    rw [e] at this
    omega
theorem lN_ge {d m : Int} (hm : 1 ≤ m) (hm2 : m ≤ 1073741824) : 0 ≤ lN m d := by
  by_cases h : max d (-d) = 0
  · rw [(lN_here (by omega) hm2 h).1]; omega
  · rw [(lN_far (by omega) hm2 h).1]
    exact Int.ediv_nonneg (by omega) (by omega)
theorem step_dist {m y a s d : Int} (hd : dst y a = d) (hm : 1 ≤ m) (hs : -16000 ≤ s) (hs2 : s ≤ 16000) :
    dst (stp m y (a + s) (s * 65536)) (a + s) = d - max (-m) (min d m) := by
  have hl := dst_le y a
  have e1 : max (-1073741824) (min (s * 65536) 1073741824) = s * 65536 := by omega
  have e2 : dst (y % 4294967296 + s * 65536) (a + s) = d := by rw [← hd]; exact dst_shift (by omega)
  unfold stp
  rw [e1, e2]
  rw [hd] at hl
  have e3 : d = ((a * 65536) % 4294967296 - y % 4294967296 + 2147483648) % 4294967296 - 2147483648 := by rw [← hd]; rfl
  have h4 : -2147483648 ≤ d - max (-m) (min d m) ∧ d - max (-m) (min d m) ≤ 2147483647 := by omega
  generalize max (-m) (min d m) = c at *
  unfold dst
  omega

theorem Left_ok (m x a : Int) (s : Bool) (w : World) (hm : 1 ≤ m) (hm2 : m ≤ 1073741824) :
    Calls Try.prog 9 #[.int .i64 m, .agg #[.int .i64 x, .bool s], .int .i64 a] w fun e w' => e = .returned (.tuple #[.int .i64 (lN m (dst x a)), .nilIface]) ∧ Below w.heap.size w w' := by
  have h := Left_any m x a s w
  have e : lE m (dst x a) = 0 := by
    by_cases h3 : max (dst x a) (-dst x a) = 0
    · exact (lN_here (by omega) hm2 h3).2
    · exact (lN_far (by omega) hm2 h3).2
  rw [e] at h
  exact h
theorem Distance_at {x a d : Int} (h : Hid (dst x a = d)) (s : Bool) (w : World) :
    Calls Try.prog 13 #[.agg #[.int .i64 x, .bool s], .int .i64 a] w fun e w' => e = .returned (.int .i64 d) ∧ Below w.heap.size w w' := by
  rw [← h.out]
  exact Distance_any x a s w

theorem clip_at {n lo hi r : Int} (h : Hid (max lo (min n hi) = r)) (w : World) :
    Calls Try.prog 17 #[.int .i64 n, .int .i64 lo, .int .i64 hi] w fun e w' => e = .returned (.int .i64 r) ∧ w = w' := by
  rw [← h.out]
  exact clip_any n lo hi w
theorem Left_at {m x a N : Int} (h : Hid (lN m (dst x a) = N)) (s : Bool) (w : World) (hm : 1 ≤ m) (hm2 : m ≤ 1073741824) :
    Calls Try.prog 9 #[.int .i64 m, .agg #[.int .i64 x, .bool s], .int .i64 a] w fun e w' => e = .returned (.tuple #[.int .i64 N, .nilIface]) ∧ Below w.heap.size w w' := by
  rw [← h.out]
  exact Left_ok m x a s w hm hm2

set_option maxHeartbeats 2000000 in
theorem reach_far (M x x0 x1 : Int) (s : Bool) (w : World) (hN : 200 < lN (max 1 (min M 1073741824)) (dst x (x0.tmod 65536))) :
    Calls Try.prog 5 #[.int .i64 M, .agg #[.int .i64 x, .bool s], .agg #[.int .i64 x0, .int .i64 x1]] w fun e w' => e = .returned (.bool true) ∧ Below w.heap.size w w' := by
  have hN0 : 0 ≤ lN (max 1 (min M 1073741824)) (dst x (x0.tmod 65536)) := by omega
  go_enter Try.func5, Try.ntmps5
  go_wp2_with (first
    | (go_at_call 7; refine (awake_any _).mono ?_; rintro e w1 ⟨rfl, hb1⟩; obtain ⟨p1, cp1, fp1, zp1⟩ := ((Blk.new w _ _).alloc _).next hb1; obtain ⟨q1, cq1, fq1, zq1⟩ := (Blk.new (w.alloc _) _ _).next hb1; simp at q1 cq1 fq1 zq1)
    | (go_at_call 17; refine (clip_any _ _ _ _).mono ?_; rintro e w' ⟨rfl, rfl⟩)
    | (go_at_call 9; refine (Left_ok _ _ _ _ _ (by omega) (by omega)).mono ?_; rintro e w2 ⟨rfl, hb2⟩))
  go_ret
  have B1 := below_call (below_box (below_box (Below.refl w.heap.size w) _) _) hb1
  exact ⟨rfl, below_call (B1.setCell (p := ⟨w.heap.size, 1, none⟩) (Nat.le_refl _) _) hb2⟩

set_option maxHeartbeats 2000000 in
theorem reach_near (M x x0 x1 m v a0 N : Int) (s : Bool) (w : World) (HM : Hid (max 1 (min M 1073741824) = m)) (HV : Hid (max (-16000) (min x1 16000) = v)) (HA : Hid (x0.tmod 65536 = a0)) (HN : Hid (lN m (dst x a0) = N)) (hN : N ≤ 200) :
    Calls Try.prog 5 #[.int .i64 M, .agg #[.int .i64 x, .bool s], .agg #[.int .i64 x0, .int .i64 x1]] w fun e w' => e = .returned (.bool true) ∧ Below w.heap.size w w' := by
  have t0 := tspec x0 65536 (by decide)
  have ka := HA.out
  have k0 : -65536 < a0 ∧ a0 < 65536 := by omega
  have km := HM.out
  have k1 : 1 ≤ m ∧ m ≤ 1073741824 := by omega
  have kv := HV.out
  have k2 : -16000 ≤ v ∧ v ≤ 16000 := by omega
  clear t0 km kv
  have hN0 : 0 ≤ N := by rw [← HN.out]; exact lN_ge k1.1 k1.2
  have hNk : ∀ k : Nat, N ≤ k ↔ dAt (dst x a0) m k = 0 := fun k => by rw [← HN.out, lN_le k1.1 k1.2, dAt_null k1.1]
  have HNk := Lib.hid hNk
  clear hNk
  go_enter Try.func5, Try.ntmps5
  go_wp2_with (first
    | (go_at_call 7; refine (awake_any _).mono ?_; rintro e w1 ⟨rfl, hb1⟩; obtain ⟨p1, cp1, fp1, zp1⟩ := ((Blk.new w _ _).alloc _).next hb1; obtain ⟨q1, cq1, fq1, zq1⟩ := (Blk.new (w.alloc _) _ _).next hb1; simp at q1 cq1 fq1 zq1)
    | (go_at_call 17; (with_reducible refine (clip_at HM _).mono ?_); rintro e w' ⟨rfl, rfl⟩)
    | (go_at_call 17; (with_reducible refine (clip_at HV _).mono ?_); rintro e w' ⟨rfl, rfl⟩)
    | (go_at_call 9; (with_reducible refine (Left_at HN _ _ k1.1 k1.2).mono ?_); rintro e w2 ⟨rfl, hb2⟩; obtain ⟨p2, cp2, fp2, zp2⟩ := (p1.put 1 _).next hb2))
  have B2 := below_call ((below_call (below_box (below_box (Below.refl w.heap.size w) _) _) hb1).setCell (p := ⟨w.heap.size, 1, none⟩) (Nat.le_refl _) _) hb2
  clear hb1 hb2 p1 cp1 fp1 zp1 q1 cq1 fq1 zq1 cp2 fp2 zp2
  go_loopw [8, 44] (fun t i wr => ∃ (k : Nat) (y d : Int), (k : Int) ≤ N + 3 ∧ i = .int .i64 k ∧ t = .int .i64 (a0 + k * v) ∧ Blk wr w.heap.size 23 #[.int .i64 y, .bool true] ∧ Below w.heap.size w wr ∧ Hid (dst y (a0 + k * v) = d) ∧ Hid (dAt (dst x a0) m k = d))
    (fun _ i _ => (N + 3 - intOf i).toNat)
  case atStart => exact ⟨0, x, dst x a0, by omega, rfl, by simp, p2, B2, Lib.hid (by simp), Lib.hid (dAt_zero _ _)⟩
  case round =>
    obtain ⟨k, y, d, hk, rfl, rfl, p, B, hd, hD⟩ := hrel
    obtain ⟨cp, fp⟩ := And.intro p.cell p.frozen
    have hl := dst_le y (a0 + k * v)
    rw [hd.out] at hl
    by_cases hlt : (k : Int) < N + 3
    · have hkv : -4000000 ≤ (k : Int) * v ∧ (k : Int) * v ≤ 4000000 := by
        have h1 : (k : Int) * v ≤ k * 16000 := Int.mul_le_mul_of_nonneg_left (by omega) (by omega)
        have h2 : (k : Int) * (-16000) ≤ k * v := Int.mul_le_mul_of_nonneg_left (by omega) (by omega)
        omega
      have hS : Hid (a0 + ((k + 1 : Nat) : Int) * v = a0 + (k : Int) * v + v) := Lib.hid (by rw [Int.natCast_add, Int.add_mul]; simp; omega)
      have hd2 := step_dist hd.out k1.1 k2.1 k2.2
      have hD2 : dAt (dst x a0) m (k + 1) = d - max (-m) (min d m) := by rw [dAt_succ k1.1, hD.out]
      obtain ⟨d', hd'⟩ : ∃ d', d' = d - max (-m) (min d m) := ⟨_, rfl⟩
      rw [← hd'] at hd2 hD2
      have mono : (0 ≤ d → 0 ≤ d' ∧ d' ≤ d) ∧ (d < 0 → d ≤ d' ∧ d' ≤ 0) := by omega
      have Hd2 := Lib.hid hd2
      have HD2 := Lib.hid hD2
      have hnull : N ≤ k ↔ d = 0 := by rw [HNk.out k, hD.out]
      clear hd2 hD2 hd'
      generalize (k : Int) * v = q at *
      have fin : ∀ (wr : World), Blk wr w.heap.size 23 #[.int .i64 (stp m y (a0 + q + v) (v * 65536)), .bool true] → Below w.heap.size w wr →
          ∃ (k' : Nat) (y' d'' : Int), (k' : Int) ≤ N + 3 ∧ Value.int .i64 (k + 1) = .int .i64 k' ∧ Value.int .i64 (a0 + q + v) = .int .i64 (a0 + k' * v) ∧ Blk wr w.heap.size 23 #[.int .i64 y', .bool true] ∧ Below w.heap.size w wr ∧ Hid (dst y' (a0 + k' * v) = d'') ∧ Hid (dAt (dst x a0) m k' = d'') :=
        fun wr h1 h2 => ⟨k + 1, _, d', by omega, by go_num, by rw [hS.out], h1, h2, Lib.hid (by rw [hS.out]; exact Hd2.out), HD2⟩
      have FIN := Lib.hid fin
      clear fin
      have three : (N ≤ k ∧ d = 0 ∧ d' = 0) ∨ (k < N ∧ (d == 0) = false ∧ 0 ≤ d ∧ 0 ≤ d' ∧ d' ≤ d) ∨ (k < N ∧ (d == 0) = false ∧ d < 0 ∧ d ≤ d' ∧ d' ≤ 0) := by
        by_cases h0 : d = 0
        · exact .inl (by omega)
        · have h1 : (d == 0) = false := by simp [h0]
          by_cases h2 : 0 ≤ d
          · exact .inr (.inl ⟨by omega, h1, h2, (mono.1 h2).1, (mono.1 h2).2⟩)
          · exact .inr (.inr ⟨by omega, h1, by omega, (mono.2 (by omega)).1, (mono.2 (by omega)).2⟩)
      clear hnull mono
      rcases three with ⟨hnk, rfl, rfl⟩ | ⟨hnk, hne, g1, g2, g3⟩ | ⟨hnk, hne, g1, g2, g3⟩
      all_goals
        go_wp2_with fail
        refine (Distance_at hd _ _).mono ?_
        rintro e w3 ⟨rfl, hb3⟩
        obtain ⟨p3, cp3, fp3, zp3⟩ := p.next hb3
        go_wp2_with fail
        refine (Step_run _ _ _ _ _ (by omega) (by omega)).mono ?_
        rintro e w4 ⟨rfl, hb4⟩
        obtain ⟨p4, cp4, fp4, zp4⟩ := p3.next hb4
        clear cp fp cp3 fp3
        go_wp2_with fail
        refine (Distance_at Hd2 _ _).mono ?_
        rintro e w5 ⟨rfl, hb5⟩
        obtain ⟨p5, cp5, fp5, zp5⟩ := (p4.alloc _).next hb5
        obtain ⟨n5, cn5, fn5, zn5⟩ := (Blk.new w4 _ _).next hb5
        clear cp4 fp4
        go_wp2_with fail
        have B5 := below_call (below_box (below_call (below_call B hb3) hb4) _) hb5
        exact ⟨FIN.out _ ((p5.put 0 _).put 1 _) ((B5.setCell (p := ⟨w.heap.size, 0, none⟩) (Nat.le_refl _) _).setCell (p := ⟨w.heap.size, 1, none⟩) (Nat.le_refl _) _), by simp [intOf]; omega⟩
    · go_wp2_with fail
      go_ret
      exact ⟨rfl, B⟩

theorem reach_any (M x x0 x1 : Int) (s : Bool) (w : World) :
    Calls Try.prog 5 #[.int .i64 M, .agg #[.int .i64 x, .bool s], .agg #[.int .i64 x0, .int .i64 x1]] w fun e w' => e = .returned (.bool true) ∧ Below w.heap.size w w' := by
  by_cases h : 200 < lN (max 1 (min M 1073741824)) (dst x (x0.tmod 65536))
  · exact reach_far M x x0 x1 s w h
  · exact reach_near M x x0 x1 _ _ _ _ s w (Lib.hid rfl) (Lib.hid rfl) (Lib.hid rfl) (Lib.hid rfl) (by omega)
end Go.Proofs.Ytifdgcenpnnciaa
