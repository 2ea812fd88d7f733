/- The walks of layer 29's Step, Angle and their references, of the law's example and awake. -/
import Derived.Test.YtckhlcifpeocdaaSpeed
namespace Go.Proofs.Ytckhlcifpeocdaa
open Go.RowKit

set_option maxHeartbeats 1000000 in
theorem rCheck_yes (G D R : Int) (h : okC G D R) (w : World) : Calls Try.prog 15 #[.agg #[.int .i64 G, .int .i64 D, .int .i64 R]] w fun e w' => e = .returned (.int .i64 0) ∧ Below w.heap.size w w' := by
  obtain ⟨h1, h2, h3, h4, h5, h6⟩ := h
  go_enter Try.func15, Try.ntmps15
  go_wp2_with (go_at_call 33; refine (rwithin_yes _ _ _ _ (by omega) (by omega)).mono ?_; rintro e w' ⟨rfl, rfl⟩)
  go_ret
  exact ⟨rfl, below_box (Below.refl _ _) _⟩
set_option maxHeartbeats 1000000 in
theorem rCheck_no (G D R : Int) (h : ¬ okC G D R) (w : World) : Calls Try.prog 15 #[.agg #[.int .i64 G, .int .i64 D, .int .i64 R]] w fun e w' => e = .returned (.int .i64 3) ∧ Below w.heap.size w w' := by
  have three : (G < 0 ∨ 1048576 < G) ∨ ((0 ≤ G ∧ G ≤ 1048576) ∧ (D < 0 ∨ 24 < D)) ∨ ((0 ≤ G ∧ G ≤ 1048576) ∧ (0 ≤ D ∧ D ≤ 24) ∧ (R < 0 ∨ 16777216 < R)) := by unfold okC at h; omega
  clear h
  rcases three with h1 | ⟨⟨h1, h2⟩, h3⟩ | ⟨⟨h1, h2⟩, ⟨h3, h4⟩, h5⟩
  all_goals
    go_enter Try.func15, Try.ntmps15
    go_wp2_with (first
      | (go_at_call 33; (with_reducible refine (rwithin_yes G _ _ _ (by omega) (by omega)).mono ?_); rintro e w' ⟨rfl, rfl⟩)
      | (go_at_call 33; (with_reducible refine (rwithin_yes D _ _ _ (by omega) (by omega)).mono ?_); rintro e w' ⟨rfl, rfl⟩)
      | (go_at_call 33; (with_reducible refine (rwithin_no G _ _ _ (by omega)).mono ?_); rintro e w' ⟨rfl, rfl⟩)
      | (go_at_call 33; (with_reducible refine (rwithin_no D _ _ _ (by omega)).mono ?_); rintro e w' ⟨rfl, rfl⟩)
      | (go_at_call 33; (with_reducible refine (rwithin_no R _ _ _ (by omega)).mono ?_); rintro e w' ⟨rfl, rfl⟩))
    go_ret
    exact ⟨rfl, below_box (Below.refl _ _) _⟩

theorem spd_le (G D R v net : Int) : -1073741824 ≤ spd G D R v net ∧ spd G D R v net ≤ 1073741824 := by
  unfold spd
  split
  · omega
  · split <;> omega
theorem wrapP_64 (x : Int) : wrapP (wrap64 x) = wrapP x := by unfold wrapP wrap64; omega
theorem wrapP_add (x y : Int) : wrapP (wrapP x + y) = wrapP (x + y) := by unfold wrapP; omega
/-- The speed of the state after a tick, and its position. -/
def nV (G D R v t l : Int) : Int := spd G D R (clS v) (netI t l)
def nP (G D R p v t l : Int) : Int := wrapP (p + nV G D R v t l)
theorem nV_le (G D R v t l : Int) : -1073741824 ≤ nV G D R v t l ∧ nV G D R v t l ≤ 1073741824 := spd_le _ _ _ _ _

set_option maxHeartbeats 1000000 in
theorem Step_no {G D R : Int} (p v t l : Int) (h : ¬ okC G D R) (w : World) : Calls Try.prog 16 #[.agg #[.int .i64 G, .int .i64 D, .int .i64 R], .agg #[.int .i64 p, .int .i64 v], .agg #[.int .i64 t, .int .i64 l]] w fun e w' => e = .returned (.tuple #[.agg #[.int .i64 0, .int .i64 0], .iface 54 (.int .i64 3)]) ∧ Below w.heap.size w w' := by
  go_enter Try.func16, Try.ntmps16
  go_wp2_with (go_at_call 14; refine (Check_no _ _ _ h _).mono ?_; rintro e w1 ⟨rfl, hb⟩; obtain ⟨hc, hf, hz⟩ := far hb; simp at hz)
  refine bodyPost_ret (v := .tuple #[.agg #[.int .i64 0, .int .i64 0], .iface 54 (.int .i64 3)]) ?_ rfl ⟨rfl, ?_⟩
  · simp [results, Try.results16, go_sem, hc]
  · exact below_set (below_set (below_call (below_box (below_box (below_box (below_box (Below.refl _ _) _) _) _) _) hb) (by omega) _) (by omega) _
set_option maxHeartbeats 2000000 in
theorem Step_yes {G D R : Int} (p v t l : Int) (h : okC G D R) (w : World) : Calls Try.prog 16 #[.agg #[.int .i64 G, .int .i64 D, .int .i64 R], .agg #[.int .i64 p, .int .i64 v], .agg #[.int .i64 t, .int .i64 l]] w fun e w' => e = .returned (.tuple #[.agg #[.int .i64 (nP G D R p v t l), .int .i64 (nV G D R v t l)], .nilIface]) ∧ Below w.heap.size w w' := by
  have hs : IntKind.i64.wrap (max (-16777216) (min t 16777216) - max (-16777216) (min l 16777216)) = max (-16777216) (min t 16777216) - max (-16777216) (min l 16777216) := IntWalk.i64_in _ (by omega)
  go_enter Try.func16, Try.ntmps16
  go_wp2_with (go_at_call 14; refine (Check_yes _ _ _ h _).mono ?_; rintro e w1 ⟨rfl, hb⟩)
  obtain ⟨bC, cC, fC, zC⟩ := ((((Blk.new w 23 #[.int .i64 G, .int .i64 D, .int .i64 R]).alloc _).alloc _).alloc _).next hb
  obtain ⟨bS, cS, fS, zS⟩ := (((Blk.new (w.alloc _) 32 #[.int .i64 p, .int .i64 v]).alloc _).alloc _).next hb
  obtain ⟨bI, cI, fI, zI⟩ := ((Blk.new ((w.alloc _).alloc _) 34 #[.int .i64 t, .int .i64 l]).alloc _).next hb
  obtain ⟨bO, cO, fO, zO⟩ := (Blk.new (((w.alloc _).alloc _).alloc _) 32 #[.int .i64 0, .int .i64 0]).next hb
  have B1 := below_call (below_box (below_box (below_box (below_box (Below.refl w.heap.size w) _) _) _) _) hb
  simp at bS cS fS zS bI cI fI zI bO cO fO zO
  go_wp2_with fail
  go_quiet ((go_at_call 34; first | exact quiet_more (clip_any _ _ _ (by omega) _) | exact Calls.quiet_of_same ((clip_any _ _ _ (by omega) _).mono (by rintro e w' ⟨rfl, rfl⟩; exact ⟨rfl, rfl⟩))))
  go_wp2_with fail
  go_region_held3 (fun w' => (∀ i, w'.cell? ⟨w.heap.size, i, none⟩ = (#[.int .i64 G, .int .i64 D, .int .i64 R] : Array Value)[i]?) ∧ (∀ i, w'.cell? ⟨w.heap.size + 1, i, none⟩ = (#[.int .i64 p, .int .i64 v] : Array Value)[i]?))
    (first | exact ⟨bC.cell, bS.cell⟩ | exact ⟨bC2.cell, bS2.cell⟩)
    (first
      | (go_at_call 34; refine (clip_any _ _ _ (by omega) _).mono ?_; rintro e w' ⟨rfl, rfl⟩)
      | (go_at_call 35; refine (speed_any h (by omega) (by omega) (by omega) (by omega) _).mono ?_; rintro e w2 ⟨rfl, hb2⟩; have bC2 := (bC.next hb2).1; obtain ⟨bS2, cS2, fS2, zS2⟩ := bS.next hb2; obtain ⟨bO2, cO2, fO2, zO2⟩ := bO.next hb2))
  go_wp2_with (go_at_call 21; refine (Wrap_any _ _).mono ?_; rintro e w' ⟨rfl, rfl⟩)
  have e1 : spd G D R (max (-1073741824) (min v 1073741824)) (max (-16777216) (min t 16777216) - max (-16777216) (min l 16777216)) = nV G D R v t l := rfl
  rw [e1]
  have e2 : wrapP (wrap64 (p + nV G D R v t l)) = nP G D R p v t l := wrapP_64 _
  rw [e2]
  refine bodyPost_ret (v := .tuple #[.agg #[.int .i64 (nP G D R p v t l), .int .i64 (nV G D R v t l)], .nilIface]) ?_ rfl ⟨rfl, ?_⟩
  · simp [results, Try.results16, go_sem, cO2]
  · exact below_set (below_set (below_call (below_drewN B1 _) hb2) (by omega) _) (by omega) _

set_option maxHeartbeats 2000000 in
theorem rStep_yes {G D R : Int} (p v t l : Int) (h : okC G D R) (hp : -9223372036854775808 ≤ p) (hp2 : p ≤ 9223372036854775807) (w : World) : Calls Try.prog 17 #[.agg #[.int .i64 G, .int .i64 D, .int .i64 R], .agg #[.int .i64 p, .int .i64 v], .agg #[.int .i64 t, .int .i64 l]] w fun e w' => e = .returned (.agg #[.int .i64 (nP G D R p v t l), .int .i64 (nV G D R v t l)]) ∧ Below w.heap.size w w' := by
  have hV := nV_le G D R v t l
  have hc := clS_le v
  have hn := netI_le t l
  have hw : -72057594037927936 ≤ wrapP p ∧ wrapP p < 72057594037927936 := by unfold wrapP; omega
  have e1 : spd G D R (clS v) (netI t l) = nV G D R v t l := rfl
  have E1 := Lib.hid e1
  clear e1
  go_enter Try.func17, Try.ntmps17
  go_wp2_with fail
  have b0 := (((Blk.new w 23 #[.int .i64 G, .int .i64 D, .int .i64 R]).alloc (.cells #[.int .i64 p, .int .i64 v] 32)).alloc (.cells #[.int .i64 t, .int .i64 l] 34)).alloc (.cells #[.int .i64 0, .int .i64 0] 32)
  have s0 := ((Blk.new (w.alloc (.cells #[.int .i64 G, .int .i64 D, .int .i64 R] 23)) 32 #[.int .i64 p, .int .i64 v]).alloc (.cells #[.int .i64 t, .int .i64 l] 34)).alloc (.cells #[.int .i64 0, .int .i64 0] 32)
  have i0 := (Blk.new ((w.alloc (.cells #[.int .i64 G, .int .i64 D, .int .i64 R] 23)).alloc (.cells #[.int .i64 p, .int .i64 v] 32)) 34 #[.int .i64 t, .int .i64 l]).alloc (.cells #[.int .i64 0, .int .i64 0] 32)
  have o0 := Blk.new (((w.alloc (.cells #[.int .i64 G, .int .i64 D, .int .i64 R] 23)).alloc (.cells #[.int .i64 p, .int .i64 v] 32)).alloc (.cells #[.int .i64 t, .int .i64 l] 34)) 32 #[.int .i64 0, .int .i64 0]
  have B0 := below_box (below_box (below_box (below_box (Below.refl w.heap.size w) (.cells #[.int .i64 G, .int .i64 D, .int .i64 R] 23)) (.cells #[.int .i64 p, .int .i64 v] 32)) (.cells #[.int .i64 t, .int .i64 l] 34)) (.cells #[.int .i64 0, .int .i64 0] 32)
  simp at s0 i0 o0
  go_region_held3 (fun w' => (∀ i, w'.cell? ⟨w.heap.size, i, none⟩ = (#[.int .i64 G, .int .i64 D, .int .i64 R] : Array Value)[i]?) ∧ (∀ i, w'.cell? ⟨w.heap.size + 1, i, none⟩ = (#[.int .i64 p, .int .i64 v] : Array Value)[i]?) ∧ (∀ i, w'.cell? ⟨w.heap.size + 1 + 1, i, none⟩ = (#[.int .i64 t, .int .i64 l] : Array Value)[i]?))
    (first | exact ⟨b0.cell, s0.cell, i0.cell⟩ | exact ⟨b1.cell, s1.cell, i1.cell⟩ | exact ⟨b2.cell, s2.cell, i2.cell⟩ | exact ⟨b3.cell, s3.cell, i3.cell⟩)
    (first
      | (go_at_call 20; refine (Speed_any _ _ _).mono ?_; rintro e w1 ⟨rfl, hb1⟩; have b1 := (b0.next hb1).1; have s1 := (s0.next hb1).1; have i1 := (i0.next hb1).1; have o1 := (o0.next hb1).1)
      | (go_at_call 18; refine (Net_any _ _ _).mono ?_; rintro e w2 ⟨rfl, hb2⟩; have b2 := (b1.next hb2).1; have s2 := (s1.next hb2).1; have i2 := (i1.next hb2).1; have o2 := (o1.next hb2).1)
      | (go_at_call 36; refine (next_any h hc.1 hc.2 hn.1 hn.2 _).mono ?_; rw [E1.out]; rintro e w3 ⟨rfl, hb3⟩; have b3 := (b2.next hb3).1; obtain ⟨s3, cs3, fs3, zs3⟩ := s2.next hb3; have i3 := (i2.next hb3).1; obtain ⟨o3, co3, fo3, zo3⟩ := o2.next hb3))
  go_wp2_with (go_at_call 23; refine (rWrap_any _ (by omega) (by omega) _).mono ?_; rintro e w' ⟨rfl, rfl⟩)
  have e2 : wrapP (wrapP p + nV G D R v t l) = nP G D R p v t l := by unfold nP; exact wrapP_add _ _
  rw [e2]
  refine bodyPost_ret (v := .agg #[.int .i64 (nP G D R p v t l), .int .i64 (nV G D R v t l)]) ?_ rfl ⟨rfl, ?_⟩
  · simp [results, Try.results17, go_sem, co3]
  · exact below_set (below_set (below_call (below_call (below_call B0.drew hb1) hb2) hb3) (by omega) _) (by omega) _
end Go.Proofs.Ytckhlcifpeocdaa
