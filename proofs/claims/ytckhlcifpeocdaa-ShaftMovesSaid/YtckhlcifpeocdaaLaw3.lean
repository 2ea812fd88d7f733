/- ShaftMoves: the walk. -/
import Derived.Test.YtckhlcifpeocdaaLaw1
namespace Go.Proofs.Ytckhlcifpeocdaa
open Go.RowKit

theorem move_ang (p V : Int) (h : -1073741824 ≤ V) (h2 : V ≤ 1073741824) :
    ∃ r t : Int, wrapP ((angP (wrapP (p + V)) - angP p) * 65536 - V) = r ∧ (r + 2147483648) / 4294967296 = t ∧ -8589934592 ≤ r ∧ r ≤ 8589934592 ∧ -4 ≤ t ∧ t ≤ 4 ∧ -65536 < r - t * 65536 * 65536 ∧ r - t * 65536 * 65536 < 65536 := by
  refine ⟨_, _, rfl, rfl, ?_⟩
  have e : wrapP ((angP (wrapP (p + V)) - angP p) * 65536 - V) = (angP (wrapP (p + V)) - angP p) * 65536 - V := by
    have a := angP_le p
    have b := angP_le (wrapP (p + V))
    generalize angP p = x at *
    generalize angP (wrapP (p + V)) = y at *
    unfold wrapP; omega
  rw [e]
  unfold angP wrapP
  omega
theorem wrapP_wrapP (x : Int) : wrapP (wrapP x) = wrapP x := by unfold wrapP; omega
theorem wrapP_null (p V : Int) : wrapP (wrapP (p + V) - wrapP p - V) = 0 := by unfold wrapP; omega
theorem wrapP_le (x : Int) : -72057594037927936 ≤ wrapP x ∧ wrapP x < 72057594037927936 := by unfold wrapP; omega
theorem Wrap_at {x y : Int} (h : Hid (wrapP x = y)) (w : World) : Calls Try.prog 21 #[.int .i64 x] w fun e w' => e = .returned (.int .i64 y) ∧ w = w' := by
  rw [← h.out]; exact Wrap_any x w
theorem Div_at {x y : Int} (h : Hid (x / 4294967296 = y)) (h1 : -9223372036854775808 ≤ x) (h2 : x ≤ 9223372036854775807) (w : World) : Calls Try.prog 25 #[.int .i64 x, .int .i64 4294967296] w fun e w' => e = .returned (.int .i64 y) ∧ w = w' := by
  rw [← h.out]; exact Div_any x h1 h2 w

set_option maxHeartbeats 1000000 in
theorem moves_no (G D R p v t l : Int) (h : ¬ okC G D R) (w : World) :
    Calls Try.prog 8 #[.agg #[.int .i64 G, .int .i64 D, .int .i64 R], .agg #[.int .i64 p, .int .i64 v], .agg #[.int .i64 t, .int .i64 l]] w fun e w' => e = .returned (.bool true) ∧ Below w.heap.size w w' := by
  go_enter Try.func8, Try.ntmps8
  go_wp2_with fail
  (with_reducible refine (awake_any _).mono ?_)
  rintro e w1 ⟨rfl, hb1⟩
  obtain ⟨b1, cb1, fb1, zb1⟩ := (((Blk.new w 23 #[.int .i64 G, .int .i64 D, .int .i64 R]).alloc _).alloc _).next hb1
  go_wp2_with fail
  (with_reducible refine (Check_no _ _ _ h _).mono ?_)
  rintro e w2 ⟨rfl, hb2⟩
  go_wp2_with fail
  (with_reducible refine (awake_any _).mono ?_)
  rintro e w3 ⟨rfl, hb3⟩
  go_wp2_with fail
  go_ret
  exact ⟨rfl, below_call (below_call (below_call (below_box (below_box (below_box (Below.refl w.heap.size w) _) _) _) hb1) hb2) hb3⟩

set_option maxHeartbeats 2000000 in
theorem moves_yes (G D R p v t l : Int) (h : okC G D R) (w : World) :
    Calls Try.prog 8 #[.agg #[.int .i64 G, .int .i64 D, .int .i64 R], .agg #[.int .i64 p, .int .i64 v], .agg #[.int .i64 t, .int .i64 l]] w fun e w' => e = .returned (.bool true) ∧ Below w.heap.size w w' := by
  have hV := nV_le G D R v t l
  obtain ⟨r, u, hr, hu, r1, r2, u1, u2, f1, f2⟩ := move_ang p (nV G D R v t l) hV.1 hV.2
  have e0 : wrapP (p + nV G D R v t l) = nP G D R p v t l := rfl
  have e1 := wrapP_wrapP (p + nV G D R v t l)
  have e2 := wrapP_null p (nV G D R v t l)
  rw [e0] at hr e1 e2
  have hP := wrapP_le (p + nV G D R v t l)
  rw [e0] at hP
  have hp := wrapP_le p
  have a0 := angP_le p
  have a1 := angP_le (nP G D R p v t l)
  have cs := fun W => Step_yes p v t l h W
  clear e0
  generalize nP G D R p v t l = Q at *
  generalize nV G D R v t l = V at *
  have CS := Lib.hid cs
  have HR := Lib.hid hr
  have HU := Lib.hid hu
  have E1 := Lib.hid e1
  have E2 := Lib.hid e2
  have HC := Lib.hid (fun W => Check_yes G D R h W)
  clear cs hr hu e1 e2 h
  go_enter Try.func8, Try.ntmps8
  go_wp2_with fail
  (with_reducible refine (awake_any _).mono ?_)
  rintro e w1 ⟨rfl, hb1⟩
  obtain ⟨b1, cb1, fb1, zb1⟩ := (((Blk.new w 23 #[.int .i64 G, .int .i64 D, .int .i64 R]).alloc _).alloc _).next hb1
  obtain ⟨s1, cs1, fs1, zs1⟩ := ((Blk.new (w.alloc _) 32 #[.int .i64 p, .int .i64 v]).alloc _).next hb1
  obtain ⟨i1, ci1, fi1, zi1⟩ := (Blk.new ((w.alloc _).alloc _) 34 #[.int .i64 t, .int .i64 l]).next hb1
  simp at s1 cs1 fs1 zs1 i1 ci1 fi1 zi1
  have B1 := below_call (below_box (below_box (below_box (Below.refl w.heap.size w) _) _) _) hb1
  go_wp2_with fail
  (with_reducible refine (HC.out _).mono ?_)
  rintro e w2 ⟨rfl, hb2⟩
  obtain ⟨b2, cb2, fb2, zb2⟩ := b1.next hb2
  obtain ⟨s2, cs2, fs2, zs2⟩ := s1.next hb2
  obtain ⟨i2, ci2, fi2, zi2⟩ := i1.next hb2
  have B2 := below_call B1 hb2
  clear cb1 fb1 zb1 cs1 fs1 zs1 ci1 fi1 zi1
  go_wp2_with fail
  (with_reducible refine (CS.out _).mono ?_)
  rintro e w3 ⟨rfl, hb3⟩
  obtain ⟨s3, cs3, fs3, zs3⟩ := s2.next hb3
  have B3 := below_box (below_call B2 hb3) (.cells #[.int .i64 Q, .int .i64 V] 32)
  have n3 := Blk.new w3 32 #[.int .i64 Q, .int .i64 V]
  clear cb2 fb2 zb2 cs2 fs2 zs2 ci2 fi2 zi2
  go_wp2_with fail
  go_quiet ((go_at_call 21; first | exact quiet_more (Wrap_at E1 _) | exact Calls.quiet_of_same ((Wrap_at E1 _).mono (by rintro e w' ⟨rfl, rfl⟩; exact ⟨rfl, rfl⟩))))
  have hx : IntKind.i64.wrap (Q - wrapP p) = Q - wrapP p := IntWalk.i64_in _ (by omega)
  have hy : IntKind.i64.wrap (Q - wrapP p - V) = Q - wrapP p - V := IntWalk.i64_in _ (by omega)
  go_wp2_with fail
  go_quiet ((go_at_call 21; first | (with_reducible exact quiet_more (Wrap_at E2 _)) | (with_reducible exact quiet_more (Wrap_any p _))))
  go_wp2_with fail
  have s4 := s3.alloc (.cells #[.int .i64 Q, .int .i64 V] 32)
  have hz1 : IntKind.i64.wrap (angP Q - angP p) = angP Q - angP p := IntWalk.i64_in _ (by omega)
  have hz2 : IntKind.i64.wrap ((angP Q - angP p) * 65536) = (angP Q - angP p) * 65536 := IntWalk.i64_in _ (by omega)
  go_region_held3 (fun w' => (∀ i, w'.cell? ⟨w3.heap.size, i, none⟩ = (#[.int .i64 Q, .int .i64 V] : Array Value)[i]?) ∧ (∀ i, w'.cell? ⟨w.heap.size + 1, i, none⟩ = (#[.int .i64 p, .int .i64 v] : Array Value)[i]?))
    (first | exact ⟨n3.cell, s4.cell⟩ | exact ⟨n5.cell, s5.cell⟩ | exact ⟨n6.cell, s6.cell⟩)
    (first
      | (go_at_call 22; (with_reducible refine (Angle_any Q _ _).mono ?_); rintro e w5 ⟨rfl, hb5⟩; have n5 := (n3.next hb5).1; have s5 := (s4.next hb5).1)
      | (go_at_call 22; (with_reducible refine (Angle_any p _ _).mono ?_); rintro e w6 ⟨rfl, hb6⟩; obtain ⟨n6, cn6, fn6, zn6⟩ := n5.next hb6; have s6 := (s5.next hb6).1))
  clear hx hy hz1 hz2
  go_wp2_with fail
  (with_reducible refine (Wrap_at HR _).mono ?_)
  rintro e w' ⟨rfl, rfl⟩
  go_wp2_with fail
  (with_reducible refine (Div_at HU (by omega) (by omega) _).mono ?_)
  rintro e w' ⟨rfl, rfl⟩
  go_wp2_with fail
  go_ret
  exact ⟨rfl, below_call (below_call (below_drewN B3 _) hb5) hb6⟩
end Go.Proofs.Ytckhlcifpeocdaa
