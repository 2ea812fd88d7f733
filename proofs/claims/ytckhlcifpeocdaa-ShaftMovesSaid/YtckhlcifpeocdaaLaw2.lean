/- ShaftMirrors and ShaftMoves: the walks. -/
import Derived.Test.YtckhlcifpeocdaaLaw1
import Derived.Test.YtckhlcifpeocdaaPlain2
namespace Go.Proofs.Ytckhlcifpeocdaa
open Go.RowKit

theorem clS_clS (v : Int) : clS (clS v) = clS v := by unfold clS; omega
theorem netI_half (n : Int) (h : -33554432 ≤ n) (h2 : n ≤ 33554432) : netI (-(n.tdiv 2)) (n - n.tdiv 2) = -n := by
  have t1 := tspec n 2 (by decide)
  unfold netI
  omega
theorem nV_mirror (G D R v t l : Int) : nV G D R (-(clS v)) (-((netI t l).tdiv 2)) (netI t l - (netI t l).tdiv 2) = -nV G D R (clS v) t l := by
  have hn := netI_le t l
  unfold nV
  rw [netI_half _ hn.1 hn.2, clS_clS]
  have : clS (-(clS v)) = -(clS v) := by unfold clS; omega
  rw [this, spd_mirror]

set_option maxHeartbeats 2000000 in
theorem mirrors_no (G D R p v t1 l1 t2 l2 : Int) (h : ¬ okC G D R) (w : World) :
    Calls Try.prog 6 #[.agg #[.int .i64 G, .int .i64 D, .int .i64 R], .agg #[.int .i64 p, .int .i64 v], .agg #[.int .i64 t1, .int .i64 l1, .int .i64 t2, .int .i64 l2]] w fun e w' => e = .returned (.bool true) ∧ Below w.heap.size w w' := by
  go_enter Try.func6, Try.ntmps6
  go_wp2_with fail
  (with_reducible refine (awake_any _).mono ?_)
  rintro e w1 ⟨rfl, hb1⟩
  obtain ⟨b1, cb1, fb1, zb1⟩ := (((Blk.new w 23 #[.int .i64 G, .int .i64 D, .int .i64 R]).alloc _).alloc _).next hb1
  go_wp2_with fail
  (with_reducible refine (Check_no _ _ _ h _).mono ?_)
  rintro e w2 ⟨rfl, hb2⟩
  go_wp2_with fail
  (with_reducible refine (awake_any _).mono ?_)
  rintro e w3 ⟨rfl, hb3⟩
  go_wp2_with fail
  go_ret
  exact ⟨rfl, below_call (below_call (below_call (below_box (below_box (below_box (Below.refl w.heap.size w) _) _) _) hb1) hb2) hb3⟩

set_option maxHeartbeats 4000000 in
theorem mirrors_yes (G D R p v t1 l1 t2 l2 : Int) (h : okC G D R) (w : World) :
    Calls Try.prog 6 #[.agg #[.int .i64 G, .int .i64 D, .int .i64 R], .agg #[.int .i64 p, .int .i64 v], .agg #[.int .i64 t1, .int .i64 l1, .int .i64 t2, .int .i64 l2]] w fun e w' => e = .returned (.bool true) ∧ Below w.heap.size w w' := by
  have hn := netI_le t1 l1
  have hc := clS_le v
  have k1 := tspec (netI t1 l1) 2 (by decide)
  have k3 : -33554432 ≤ (netI t1 l1).tdiv 2 ∧ (netI t1 l1).tdiv 2 ≤ 33554432 := by omega
  clear k1
  have va := nV_le G D R (clS v) t1 l1
  have c3 := fun W => Step_yes 0 (-(clS v)) (-((netI t1 l1).tdiv 2)) (netI t1 l1 - (netI t1 l1).tdiv 2) h W
  rw [nV_mirror] at c3
  have C3 := Lib.hid c3
  clear c3
  have fin : netI t2 l2 < netI t1 l1 ∨ (netI t1 l1 ≤ netI t2 l2 ∧ nV G D R (clS v) t1 l1 ≤ nV G D R (clS v) t2 l2) := by
    by_cases hh : netI t1 l1 ≤ netI t2 l2
    · exact .inr ⟨hh, spd_mono h.1 h.2.2.2.2.1 hh⟩
    · exact .inl (by omega)
  have three : (netI t2 l2 < netI t1 l1) ∨ (netI t1 l1 ≤ netI t2 l2 ∧ nV G D R (clS v) t1 l1 ≤ nV G D R (clS v) t2 l2) := fin
  clear fin
  rcases three with f1 | ⟨f1, f2⟩
  all_goals
    go_enter Try.func6, Try.ntmps6
    go_wp2_with fail
    (with_reducible refine (awake_any _).mono ?_)
    rintro e w1 ⟨rfl, hb1⟩
    obtain ⟨b1, cb1, fb1, zb1⟩ := (((Blk.new w 23 #[.int .i64 G, .int .i64 D, .int .i64 R]).alloc _).alloc _).next hb1
    obtain ⟨s1, cs1, fs1, zs1⟩ := ((Blk.new (w.alloc _) 32 #[.int .i64 p, .int .i64 v]).alloc _).next hb1
    obtain ⟨i1, ci1, fi1, zi1⟩ := (Blk.new ((w.alloc _).alloc _) 43 #[.int .i64 t1, .int .i64 l1, .int .i64 t2, .int .i64 l2]).next hb1
    simp at s1 cs1 fs1 zs1 i1 ci1 fi1 zi1
    have B1 := below_call (below_box (below_box (below_box (Below.refl w.heap.size w) _) _) _) hb1
    go_wp2_with fail
    (with_reducible refine (Check_yes _ _ _ h _).mono ?_)
    rintro e w2 ⟨rfl, hb2⟩
    obtain ⟨b2, cb2, fb2, zb2⟩ := b1.next hb2
    obtain ⟨s2, cs2, fs2, zs2⟩ := s1.next hb2
    obtain ⟨i2, ci2, fi2, zi2⟩ := i1.next hb2
    have B2 := below_call B1 hb2
    clear cb1 fb1 zb1 cs1 fs1 zs1 ci1 fi1 zi1
    go_wp2_with fail
    (with_reducible refine (Speed_any _ _ _).mono ?_)
    rintro e w3 ⟨rfl, hb3⟩
    obtain ⟨b3, cb3, fb3, zb3⟩ := b2.next hb3
    obtain ⟨s3, cs3, fs3, zs3⟩ := s2.next hb3
    obtain ⟨i3, ci3, fi3, zi3⟩ := i2.next hb3
    have B3 := below_call B2 hb3
    clear cb2 fb2 zb2 cs2 fs2 zs2 ci2 fi2 zi2
    go_wp2_with fail
    (with_reducible refine (Step_yes _ _ _ _ h _).mono ?_)
    rintro e w4 ⟨rfl, hb4⟩
    obtain ⟨b4, cb4, fb4, zb4⟩ := (b3.far (p := ⟨w.heap.size + 1, 1, none⟩) (by simp) _).next hb4
    obtain ⟨s4, cs4, fs4, zs4⟩ := (s3.put 1 _).next hb4
    obtain ⟨i4, ci4, fi4, zi4⟩ := (i3.far (p := ⟨w.heap.size + 1, 1, none⟩) (by simp) _).next hb4
    have B4 := below_call (below_set B3 (by omega) _) hb4
    clear cb3 fb3 zb3 cs3 fs3 zs3 ci3 fi3 zi3
    go_wp2_with fail
    (with_reducible refine (Step_yes _ _ _ _ h _).mono ?_)
    rintro e w5 ⟨rfl, hb5⟩
    obtain ⟨b5, cb5, fb5, zb5⟩ := (b4.alloc _).next hb5
    obtain ⟨s5, cs5, fs5, zs5⟩ := (s4.alloc _).next hb5
    obtain ⟨i5, ci5, fi5, zi5⟩ := (i4.alloc _).next hb5
    obtain ⟨m5, cm5, fm5, zm5⟩ := (Blk.new w4 _ _).next hb5
    have B5 := below_call (below_box B4 _) hb5
    clear cb4 fb4 zb4 cs4 fs4 zs4 ci4 fi4 zi4
    go_wp2_with fail
    (with_reducible refine (Net_any _ _ _).mono ?_)
    rintro e w6 ⟨rfl, hb6⟩
    obtain ⟨b6, cb6, fb6, zb6⟩ := (b5.alloc _).next hb6
    obtain ⟨s6, cs6, fs6, zs6⟩ := (s5.alloc _).next hb6
    obtain ⟨i6, ci6, fi6, zi6⟩ := (i5.alloc _).next hb6
    obtain ⟨m6, cm6, fm6, zm6⟩ := (m5.alloc _).next hb6
    obtain ⟨n6, cn6, fn6, zn6⟩ := (Blk.new w5 _ _).next hb6
    have B6 := below_call (below_box B5 _) hb6
    clear cb5 fb5 zb5 cs5 fs5 zs5 ci5 fi5 zi5 cm5 fm5 zm5
    go_wp2_with fail
    (with_reducible refine (C3.out _).mono ?_)
    rintro e w7 ⟨rfl, hb7⟩
    obtain ⟨i7, ci7, fi7, zi7⟩ := i6.next hb7
    obtain ⟨m7, cm7, fm7, zm7⟩ := m6.next hb7
    obtain ⟨n7, cn7, fn7, zn7⟩ := n6.next hb7
    have B7 := below_call B6 hb7
    clear cb6 fb6 zb6 cs6 fs6 zs6 ci6 fi6 zi6 cm6 fm6 zm6 cn6 fn6 zn6
    go_wp2_with fail
    (with_reducible refine (Net_any _ _ _).mono ?_)
    rintro e w8 ⟨rfl, hb8⟩
    obtain ⟨m8, cm8, fm8, zm8⟩ := (m7.alloc _).next hb8
    obtain ⟨n8, cn8, fn8, zn8⟩ := (n7.alloc _).next hb8
    have B8 := below_call (below_box B7 _) hb8
    clear ci7 fi7 zi7 cm7 fm7 zm7 cn7 fn7 zn7
    go_wp2_with fail
    go_ret
    exact ⟨rfl, B8⟩
end Go.Proofs.Ytckhlcifpeocdaa
