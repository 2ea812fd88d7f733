/- The walk of WordMonotone. -/
import Derived.Test.YthldpmfobhemkaaLaw4
import Derived.Test.YthldpmfobhemkaaLaw2
namespace Go.Proofs.Ythldpmfobhemkaa
open Go.RowKit

theorem satV_mono (b : Int) {x y : Int} (h : x ≤ y) : satV b x ≤ satV b y := by unfold satV; omega
theorem max_word {b c : Int} (h : 2 ≤ b) (h2 : b ≤ 32) (hc : isW b c = true) : isW b (max c 0) = true := by
  have := halfF_le h h2
  rw [isW_iff] at hc ⊢
  omega
theorem clp_word {b x : Int} (h : 2 ≤ b) (h2 : b ≤ 32) : isW b (clp x (-(halfF b)) (halfF b - 1)) = true := by
  have := halfF_le h h2
  rw [isW_iff]
  unfold clp
  omega
theorem mono_no (b s x y z n m : Int) (h : ¬ okF b s) (w : World) : Calls Try.prog 9 #[.agg #[.int .i64 b, .int .i64 s], .agg #[.int .i64 x, .int .i64 y, .int .i64 z], .agg #[.int .i64 n, .int .i64 m]] w fun e w' => e = .returned (.bool true) ∧ Below w.heap.size w w' := by
  go_enter Try.func9, Try.ntmps9
  go_wp2_with fail
  (with_reducible refine (awake_any _).mono ?_)
  rintro e w1 ⟨rfl, hb1⟩
  obtain ⟨bF1, cF1, fF1, zF1⟩ := (((Blk.new w 23 #[.int .i64 b, .int .i64 s]).alloc _).alloc _).next hb1
  simp at bF1 cF1 fF1 zF1
  have B1 := below_call (below_box (below_box (below_box (Below.refl w.heap.size w) _) _) _) hb1
  go_wp2_with fail
  (with_reducible refine (Check_no b s h _).mono ?_)
  rintro e w2 ⟨rfl, hb2⟩
  have B2 := below_call B1 hb2
  go_wp2_with fail
  (with_reducible refine (awake_any _).mono ?_)
  rintro e w3 ⟨rfl, hb3⟩
  have B3 := below_call B2 hb3
  go_wp2_with fail
  go_ret
  exact ⟨rfl, B3⟩

set_option maxRecDepth 10000 in
set_option maxHeartbeats 3000000 in
theorem mono_yes (b s x y z n m : Int) (h : okF b s) (w : World) : Calls Try.prog 9 #[.agg #[.int .i64 b, .int .i64 s], .agg #[.int .i64 x, .int .i64 y, .int .i64 z], .agg #[.int .i64 n, .int .i64 m]] w fun e w' => e = .returned (.bool true) ∧ Below w.heap.size w w' := by
  have hA := h.1
  have hB := h.2.1
  have hh := halfF_le hA hB
  go_enter Try.func9, Try.ntmps9
  go_wp2_with fail
  (with_reducible refine (awake_any _).mono ?_)
  rintro e w1 ⟨rfl, hb1⟩
  obtain ⟨bF1, cF1, fF1, zF1⟩ := (((Blk.new w 23 #[.int .i64 b, .int .i64 s]).alloc _).alloc _).next hb1
  obtain ⟨bX1, cX1, fX1, zX1⟩ := ((Blk.new (w.alloc _) 52 #[.int .i64 x, .int .i64 y, .int .i64 z]).alloc _).next hb1
  obtain ⟨bN1, cN1, fN1, zN1⟩ := (Blk.new ((w.alloc _).alloc _) 28 #[.int .i64 n, .int .i64 m]).next hb1
  simp at bF1 cF1 fF1 zF1 bX1 cX1 fX1 zX1 bN1 cN1 fN1 zN1
  have B1 := below_call (below_box (below_box (below_box (Below.refl w.heap.size w) _) _) _) hb1
  go_wp2_with fail
  (with_reducible refine (Check_yes b s h _).mono ?_)
  rintro e w2 ⟨rfl, hb2⟩
  obtain ⟨bF2, cF2, fF2, zF2⟩ := bF1.next hb2
  obtain ⟨bX2, cX2, fX2, zX2⟩ := bX1.next hb2
  obtain ⟨bN2, cN2, fN2, zN2⟩ := bN1.next hb2
  have B2 := below_call B1 hb2
  clear cF1 fF1 zF1 cX1 fX1 zX1 cN1 fN1 zN1
  go_wp2_with fail
  (with_reducible refine (Bounds_yes b s h _).mono ?_)
  rintro e w3 ⟨rfl, hb3⟩
  obtain ⟨bF3, cF3, fF3, zF3⟩ := bF2.next hb3
  obtain ⟨bX3, cX3, fX3, zX3⟩ := bX2.next hb3
  obtain ⟨bN3, cN3, fN3, zN3⟩ := bN2.next hb3
  have B3 := below_call B2 hb3
  clear cF2 fF2 zF2 cX2 fX2 zX2 cN2 fN2 zN2
  go_wp2_with fail
  go_quiet ((go_at_call 21; exact Calls.quiet_of_same ((cClip_any _ _ _ _).mono (by rintro e w' ⟨rfl, rfl⟩; exact ⟨rfl, rfl⟩))))
  go_wp2_with fail
  have hu : isW b (clp (min x y) (-(halfF b)) (halfF b - 1)) = true := clp_word hA hB
  have hv : isW b (clp (max x y) (-(halfF b)) (halfF b - 1)) = true := clp_word hA hB
  have hc : isW b (clp z (-(halfF b)) (halfF b - 1)) = true := clp_word hA hB
  have huv : clp (min x y) (-(halfF b)) (halfF b - 1) ≤ clp (max x y) (-(halfF b)) (halfF b - 1) := by unfold clp; omega
  generalize clp (min x y) (-(halfF b)) (halfF b - 1) = u at *
  generalize clp (max x y) (-(halfF b)) (halfF b - 1) = v at *
  generalize clp z (-(halfF b)) (halfF b - 1) = c at *
  have bF4 := bF3.drewN nq
  have bN4 := bN3.drewN nq
  have B4 := below_drewN B3 nq
  generalize w3.drewN nq = w4 at bF4 bN4 B4 ⊢
  clear cF3 fF3 zF3 cX3 fX3 zX3 cN3 fN3 zN3 bF3 bX3 bN3 B3
  obtain ⟨cF4, fF4, zF4⟩ := And.intro bF4.cell (And.intro bF4.frozen bF4.lt)
  obtain ⟨cN4, fN4, zN4⟩ := And.intro bN4.cell (And.intro bN4.frozen bN4.lt)
  go_quiet ((go_at_call 21; exact Calls.quiet_of_same ((cClip_any _ _ _ _).mono (by rintro e w' ⟨rfl, rfl⟩; exact ⟨rfl, rfl⟩))))
  have hn : 0 ≤ clp n 0 62 ∧ clp n 0 62 ≤ 62 := by unfold clp; omega
  have hm : 0 ≤ clp m 0 3 ∧ clp m 0 3 ≤ 3 := by unfold clp; omega
  generalize clp n 0 62 = n at *
  generalize clp m 0 3 = m at *
  obtain ⟨k, rfl⟩ : ∃ k : Nat, n = k := ⟨n.toNat, by omega⟩
  have hk : k ≤ 62 := by omega
  have hd : isW b (max c 0) = true := max_word hA hB hc
  have b1 := isW_le hA hB hu
  have b2 := isW_le hA hB hv
  have b3 := isW_le hA hB hc
  have mono1 : u * max c 0 ≤ v * max c 0 := Int.mul_le_mul_of_nonneg_right huv (by omega)
  have le1 : satV b (u + c) ≤ satV b (v + c) := satV_mono b (by omega)
  have le2 : satV b (rnd (u * max c 0) k m) ≤ satV b (rnd (v * max c 0) k m) := satV_mono b (rnd_mono mono1 k m)
  have A1 := Add_yes b s u c ⟨h, hu, hc⟩
  have A2 := Add_yes b s v c ⟨h, hv, hc⟩
  have A3 := Add_yes b s c u ⟨h, hc, hu⟩
  rw [Int.add_comm c u] at A3
  have M1 := Mul_yes b s u (max c 0) k m ⟨h, hu, hd⟩ hk hm.1 hm.2
  have M2 := Mul_yes b s v (max c 0) k m ⟨h, hv, hd⟩ hk hm.1 hm.2
  have M3 := Mul_yes b s (max c 0) u k m ⟨h, hd, hu⟩ hk hm.1 hm.2
  rw [Int.mul_comm (max c 0) u] at M3
  generalize satB b (u + c) = f1 at *
  generalize satB b (v + c) = f2 at *
  generalize satV b (u + c) = p1 at *
  generalize satV b (v + c) = p2 at *
  generalize satB b (rnd (u * max c 0) k m) = f3 at *
  generalize satB b (rnd (v * max c 0) k m) = f4 at *
  generalize satV b (rnd (u * max c 0) k m) = q1 at *
  generalize satV b (rnd (v * max c 0) k m) = q2 at *
  have A1 := Lib.hid A1
  have A2 := Lib.hid A2
  have A3 := Lib.hid A3
  have M1 := Lib.hid M1
  have M2 := Lib.hid M2
  have M3 := Lib.hid M3
  have g1 : decide (p2 < p1) = false := decide_eq_false (by omega)
  have g2 : decide (q1 ≤ q2) = true := decide_eq_true le2
  have bF5 := bF4.drewN nq
  have B5 := below_drewN B4 nq
  generalize w4.drewN nq = w5 at bF5 B5 ⊢
  clear cF4 fF4 zF4 cN4 fN4 zN4 bF4 bN4 B4 huv mono1 le1 le2 hu hv hc hd b1 b2 b3
  obtain ⟨cF5, fF5, zF5⟩ := And.intro bF5.cell (And.intro bF5.frozen bF5.lt)
  go_wp2_with fail
  (with_reducible refine (A1.out _).mono ?_)
  rintro e w6 ⟨rfl, hb6⟩
  obtain ⟨bF6, cF6, fF6, zF6⟩ := bF5.next hb6
  have B6 := below_call B5 hb6
  clear cF5 fF5 zF5
  go_wp2_with fail
  (with_reducible refine (A2.out _).mono ?_)
  rintro e w7 ⟨rfl, hb7⟩
  obtain ⟨bF7, cF7, fF7, zF7⟩ := bF6.next hb7
  have B7 := below_call B6 hb7
  clear cF6 fF6 zF6
  go_wp2_with fail
  (with_reducible refine (A3.out _).mono ?_)
  rintro e w8 ⟨rfl, hb8⟩
  obtain ⟨bF8, cF8, fF8, zF8⟩ := bF7.next hb8
  have B8 := below_call B7 hb8
  clear cF7 fF7 zF7
  go_wp2_with fail
  (with_reducible refine (M1.out _).mono ?_)
  rintro e w9 ⟨rfl, hb9⟩
  obtain ⟨bF9, cF9, fF9, zF9⟩ := bF8.next hb9
  have B9 := below_call B8 hb9
  clear cF8 fF8 zF8
  go_wp2_with fail
  (with_reducible refine (M2.out _).mono ?_)
  rintro e w10 ⟨rfl, hb10⟩
  obtain ⟨bF10, cF10, fF10, zF10⟩ := bF9.next hb10
  have B10 := below_call B9 hb10
  clear cF9 fF9 zF9
  go_wp2_with fail
  (with_reducible refine (M3.out _).mono ?_)
  rintro e w11 ⟨rfl, hb11⟩
  obtain ⟨bF11, cF11, fF11, zF11⟩ := bF10.next hb11
  have B11 := below_call B10 hb11
  clear cF10 fF10 zF10
  go_wp2_with fail
  go_ret
  exact ⟨ret_bool (by simp), B11⟩

theorem mono_any (b s x y z n m : Int) (w : World) : Calls Try.prog 9 #[.agg #[.int .i64 b, .int .i64 s], .agg #[.int .i64 x, .int .i64 y, .int .i64 z], .agg #[.int .i64 n, .int .i64 m]] w fun e w' => e = .returned (.bool true) ∧ Below w.heap.size w w' := by
  by_cases h : okF b s
  · exact mono_yes b s x y z n m h w
  · exact mono_no b s x y z n m h w

end Go.Proofs.Ythldpmfobhemkaa
