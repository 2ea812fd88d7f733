/- ShaftFastest: the walks. -/
import Derived.Test.YtckhlcifpeocdaaStops
namespace Go.Proofs.Ytckhlcifpeocdaa
open Go.RowKit

theorem inc_mono {G D R M M' : Int} (h : okC G D R) (h2 : M ≤ M') : inc G R M ≤ inc G R M' := by
  unfold inc
  exact tdiv_mono (Int.mul_le_mul_of_nonneg_right (by omega) h.1)
theorem fast_step {G D R : Int} (h : okC G D R) {v0 v t l m : Int} {k : Nat} (h0 : 0 ≤ m) (hm : m ≤ 33554432) (hi : sz v ≤ sz v0 + k * inc G R m) :
    sz (nV G D R v t l) ≤ sz v0 + ((k + 1 : Nat) : Int) * inc G R (max (max m (netI t l)) (-netI t l)) := by
  have hn := netI_le t l
  have hc := clS_le v
  obtain ⟨M, hM⟩ : ∃ M, max (max m (netI t l)) (-netI t l) = M := ⟨_, rfl⟩
  rw [hM]
  have e : ((k + 1 : Nat) : Int) * inc G R M = k * inc G R M + inc G R M := by rw [Int.natCast_add, Int.add_mul]; simp
  have e2 : sz (nV G D R v t l) = max (nV G D R v t l) (-nV G D R v t l) := by unfold sz; rw [clS_nV]
  have f : max (nV G D R v t l) (-nV G D R v t l) ≤ sz v + inc G R M := by
    unfold nV
    exact spd_fast (D := D) h.1 h.2.2.2.2.1 (by omega) hc.1 hc.2 (by omega) (by omega)
  have g : (k : Int) * inc G R m ≤ k * inc G R M := Int.mul_le_mul_of_nonneg_left (inc_mono h (by omega)) (by omega)
  rw [e, e2]
  omega
theorem fast_end {G R v0 v m : Int} {n : Nat} (hi : sz v ≤ sz v0 + n * inc G R m) : max (clS v) (-clS v) ≤ fastN G R v0 m n := by
  have := sz_le v
  unfold fastN
  unfold sz at *
  omega

set_option maxHeartbeats 2000000 in
theorem fast_no {G D R : Int} (p v : Int) (A : Option Addr) (n c : Nat) (h : ¬ okC G D R) (w : World) : Calls Try.prog 9 #[.agg #[.int .i64 G, .int .i64 D, .int .i64 R], .agg #[.int .i64 p, .int .i64 v], .slice A n c] w fun e w' => e = .returned (.bool true) ∧ Below w.heap.size w w' := by
  go_enter Try.func9, Try.ntmps9
  go_wp2_with fail
  (with_reducible refine (awake_any _).mono ?_)
  rintro e w1 ⟨rfl, hb1⟩
  obtain ⟨c1, cc1, fc1, zc1⟩ := ((Blk.new (w) 23 #[.int .i64 G, .int .i64 D, .int .i64 R]).alloc _).next hb1
  obtain ⟨s1, cs1, fs1, zs1⟩ := (Blk.new ((w).alloc _) 32 #[.int .i64 p, .int .i64 v]).next hb1
  try simp at c1 cc1 fc1 zc1 s1 cs1 fs1 zs1
  have B1 := below_call (below_box (below_box (Below.refl w.heap.size w) _) _) hb1
  go_wp2_with fail
  (with_reducible refine (Check_no _ _ _ h _).mono ?_)
  rintro e w2 ⟨rfl, hb2⟩
  obtain ⟨c2, cc2, fc2, zc2⟩ := (c1).next hb2
  obtain ⟨s2, cs2, fs2, zs2⟩ := (s1).next hb2
  try simp at c2 cc2 fc2 zc2 s2 cs2 fs2 zs2
  have B2 := below_call (B1) hb2
  clear cc1 fc1 zc1 cs1 fs1 zs1
  go_wp2_with fail
  (with_reducible refine (awake_any _).mono ?_)
  rintro e w3 ⟨rfl, hb3⟩
  obtain ⟨c3, cc3, fc3, zc3⟩ := (c2).next hb3
  obtain ⟨s3, cs3, fs3, zs3⟩ := (s2).next hb3
  try simp at c3 cc3 fc3 zc3 s3 cs3 fs3 zs3
  have B3 := below_call (B2) hb3
  clear cc2 fc2 zc2 cs2 fs2 zs2
  go_wp2_with fail
  go_ret
  exact ⟨rfl, B3⟩

set_option maxHeartbeats 2000000 in
theorem fast_long {G D R : Int} (p v : Int) (A : Option Addr) (n c : Nat) (h : okC G D R) (hn : 200 < n) (hm : (n : Int) ≤ 9223372036854775807) (w : World) : Calls Try.prog 9 #[.agg #[.int .i64 G, .int .i64 D, .int .i64 R], .agg #[.int .i64 p, .int .i64 v], .slice A n c] w fun e w' => e = .returned (.bool true) ∧ Below w.heap.size w w' := by
  go_enter Try.func9, Try.ntmps9
  go_wp2_with fail
  (with_reducible refine (awake_any _).mono ?_)
  rintro e w1 ⟨rfl, hb1⟩
  obtain ⟨c1, cc1, fc1, zc1⟩ := ((Blk.new (w) 23 #[.int .i64 G, .int .i64 D, .int .i64 R]).alloc _).next hb1
  obtain ⟨s1, cs1, fs1, zs1⟩ := (Blk.new ((w).alloc _) 32 #[.int .i64 p, .int .i64 v]).next hb1
  try simp at c1 cc1 fc1 zc1 s1 cs1 fs1 zs1
  have B1 := below_call (below_box (below_box (Below.refl w.heap.size w) _) _) hb1
  go_wp2_with fail
  (with_reducible refine (Check_yes _ _ _ h _).mono ?_)
  rintro e w2 ⟨rfl, hb2⟩
  obtain ⟨c2, cc2, fc2, zc2⟩ := (c1).next hb2
  obtain ⟨s2, cs2, fs2, zs2⟩ := (s1).next hb2
  try simp at c2 cc2 fc2 zc2 s2 cs2 fs2 zs2
  have B2 := below_call (B1) hb2
  clear cc1 fc1 zc1 cs1 fs1 zs1
  go_wp2_with fail
  (with_reducible refine (awake_any _).mono ?_)
  rintro e w3 ⟨rfl, hb3⟩
  obtain ⟨c3, cc3, fc3, zc3⟩ := (c2).next hb3
  obtain ⟨s3, cs3, fs3, zs3⟩ := (s2).next hb3
  try simp at c3 cc3 fc3 zc3 s3 cs3 fs3 zs3
  have B3 := below_call (B2) hb3
  clear cc2 fc2 zc2 cs2 fs2 zs2
  go_wp2_with fail
  go_ret
  exact ⟨rfl, B3⟩

/-- What a round holds. -/
def St (w W : World) (T : Nat) (c s t : Array Value) : Prop := Blk W w.heap.size 23 c ∧ Blk W (w.heap.size + 1) 32 s ∧ Blk W T 32 t ∧ Below w.heap.size w W
section
variable {w W W1 : World} {T : Nat} {c s t : Array Value}
theorem St.drew (h : St w W T c s t) : St w W.drew T c s t := ⟨h.1, h.2.1, h.2.2.1, h.2.2.2.drew⟩
theorem St.alloc (h : St w W T c s t) (o : Obj) : St w (W.alloc o) T c s t := ⟨h.1.alloc o, h.2.1.alloc o, h.2.2.1.alloc o, below_box h.2.2.2 o⟩
theorem St.call (h : St w W T c s t) (hb : Below W.heap.size W W1) : St w W1 T c s t := ⟨(h.1.next hb).1, (h.2.1.next hb).1, (h.2.2.1.next hb).1, below_call h.2.2.2 hb⟩
theorem St.far (h : St w W T c s t) {B i : Nat} (h1 : w.heap.size + 1 < B) (h2 : T < B) (u : Value) : St w (W.setCell ⟨B, i, none⟩ u) T c s t :=
  ⟨h.1.far (by simp; omega) u, h.2.1.far (by simp; omega) u, h.2.2.1.far (by simp; omega) u, below_set h.2.2.2 (by omega) u⟩
theorem St.far2 (h : St w W T c s t) {B i j : Nat} (h1 : w.heap.size + 1 < B) (h2 : T < B) (u u2 : Value) : St w ((W.setCell ⟨B, i, none⟩ u).setCell ⟨B, j, none⟩ u2) T c s t := (h.far h1 h2 u).far h1 h2 u2
theorem St.put {a b : Value} (h : St w W T c s #[a, b]) (hT : w.heap.size + 1 < T) (u u2 : Value) : St w ((W.setCell ⟨T, 0, none⟩ u).setCell ⟨T, 1, none⟩ u2) T c s #[u, u2] :=
  ⟨(h.1.far (by simp; omega) u).far (by simp; omega) u2, (h.2.1.far (by simp; omega) u).far (by simp; omega) u2, (h.2.2.1.put 0 u).put 1 u2, below_set (below_set h.2.2.2 (by omega) u) (by omega) u2⟩
theorem St.held (h : St w W T c s t) {b o o2 : Nat} {u u2 : Value} (hb : Hid (b < w.heap.size)) (r0 : Hid (w.cell? ⟨b, o, none⟩ = some u)) (r1 : Hid (w.cell? ⟨b, o2, none⟩ = some u2)) :
    (∀ i, W.cell? ⟨w.heap.size, i, none⟩ = c[i]?) ∧ (∀ i, W.cell? ⟨T, i, none⟩ = t[i]?) ∧ W.cell? ⟨b, o, none⟩ = some u ∧ W.cell? ⟨b, o2, none⟩ = some u2 :=
  ⟨h.1.cell, h.2.2.1.cell, (h.2.2.2.cell (p := ⟨b, o, none⟩) hb.out).trans r0.out, (h.2.2.2.cell (p := ⟨b, o2, none⟩) hb.out).trans r1.out⟩
end
set_option maxHeartbeats 4000000 in
theorem fast_short {G D R : Int} (p v : Int) (A : Option Addr) (n c : Nat) (f g : Nat → Int) (h : okC G D R) (hn : n ≤ 200) (w : World)
    (hA : 0 < n → ∃ b off, A = some ⟨b, off, none⟩ ∧ b < w.heap.size ∧ ∀ k, k < n → w.cell? ⟨b, off + k * 2, none⟩ = some (.int .i64 (f k)) ∧ w.cell? ⟨b, off + k * 2 + 1, none⟩ = some (.int .i64 (g k))) : Calls Try.prog 9 #[.agg #[.int .i64 G, .int .i64 D, .int .i64 R], .agg #[.int .i64 p, .int .i64 v], .slice A n c] w fun e w' => e = .returned (.bool true) ∧ Below w.heap.size w w' := by
  have HH := Lib.hid h
  have HA := Lib.hid hA
  clear h hA
  go_enter Try.func9, Try.ntmps9
  go_wp2_with fail
  (with_reducible refine (awake_any _).mono ?_)
  rintro e w1 ⟨rfl, hb1⟩
  obtain ⟨c1, cc1, fc1, zc1⟩ := ((Blk.new (w) 23 #[.int .i64 G, .int .i64 D, .int .i64 R]).alloc _).next hb1
  obtain ⟨s1, cs1, fs1, zs1⟩ := (Blk.new ((w).alloc _) 32 #[.int .i64 p, .int .i64 v]).next hb1
  try simp at c1 cc1 fc1 zc1 s1 cs1 fs1 zs1
  have B1 := below_call (below_box (below_box (Below.refl w.heap.size w) _) _) hb1
  go_wp2_with fail
  (with_reducible refine (Check_yes _ _ _ HH.out _).mono ?_)
  rintro e w2 ⟨rfl, hb2⟩
  obtain ⟨c2, cc2, fc2, zc2⟩ := (c1).next hb2
  obtain ⟨s2, cs2, fs2, zs2⟩ := (s1).next hb2
  try simp at c2 cc2 fc2 zc2 s2 cs2 fs2 zs2
  have B2 := below_call (B1) hb2
  clear cc1 fc1 zc1 cs1 fs1 zs1
  go_wp2_with fail
  go_region
  go_wp2_with fail
  have T0 := ((c2.alloc (.cells #[.int .i64 p, .int .i64 v] 32)).drew)
  have T1 := ((s2.alloc (.cells #[.int .i64 p, .int .i64 v] 32)).drew)
  have T2 := (Blk.new w2 32 #[.int .i64 p, .int .i64 v]).drew
  have T3 := (below_box B2 (.cells #[.int .i64 p, .int .i64 v] 32)).drew
  obtain ⟨T, hT⟩ : ∃ T, T = w2.heap.size := ⟨_, rfl⟩
  rw [← hT] at T2 ⊢
  rw [← hT] at zc2 zs2
  obtain ⟨w3, hw3⟩ : ∃ w3, w3 = (w2.alloc (.cells #[.int .i64 p, .int .i64 v] 32)).drew := ⟨_, rfl⟩
  rw [← hw3] at T0 T1 T2 T3 ⊢
  clear hT hw3 c1 s1 B1 hb1 hb2 c2 s2 B2 cc2 fc2 cs2 fs2
  go_loopw [7, 9] (fun m i wr => ∃ (k : Nat) (m1 p1 v1 : Int), k ≤ n ∧ m = .int .i64 m1 ∧ i = .int .i64 k ∧ 0 ≤ m1 ∧ m1 ≤ 33554432 ∧ Blk wr w.heap.size 23 #[.int .i64 G, .int .i64 D, .int .i64 R] ∧ Blk wr (w.heap.size + 1) 32 #[.int .i64 p, .int .i64 v] ∧ Blk wr T 32 #[.int .i64 p1, .int .i64 v1] ∧ Below w.heap.size w wr ∧ Hid (sz v1 ≤ sz v + k * inc G R m1))
    (fun _ i _ => n - (intOf i).toNat)
  case atStart => exact ⟨0, 0, p, v, by omega, rfl, rfl, by omega, by omega, T0, T1, T2, T3, Lib.hid (by simp)⟩
  case round =>
    obtain ⟨k, m1, p1, v1, hk, rfl, rfl, hm0, hm1, c10, s10, t10, B10, hi⟩ := hrel
    obtain ⟨cc10, fc10, zc10⟩ := And.intro c10.cell (And.intro c10.frozen c10.lt)
    obtain ⟨cs10, fs10, zs10⟩ := And.intro s10.cell (And.intro s10.frozen s10.lt)
    obtain ⟨ct10, ft10, zt10⟩ := And.intro t10.cell (And.intro t10.frozen t10.lt)
    by_cases hlt : (k : Int) < n
    · obtain ⟨b, off, rfl, hb, hrow⟩ := HA.out (by omega)
      obtain ⟨r0, r1⟩ := hrow k (by omega)
      have R0 := Lib.hid r0
      have R1 := Lib.hid r1
      clear r0 r1 hrow
      have q0 := (B10.cell (p := ⟨b, off + k * 2, none⟩) hb).trans R0.out
      have q1 := (B10.cell (p := ⟨b, off + k * 2 + 1, none⟩) hb).trans R1.out
      have hn := netI_le (f k) (g k)
      have hi2 := Lib.hid (fast_step HH.out (t := f k) (l := g k) hm0 hm1 hi.out)
      have ST := Lib.hid (Step_yes p1 v1 (f k) (g k) HH.out)
      have NE := Lib.hid (Net_any (f k) (g k))
      obtain ⟨p2, hp2⟩ : ∃ p2, nP G D R p1 v1 (f k) (g k) = p2 := ⟨_, rfl⟩
      rw [hp2] at ST
      clear hp2
      generalize nV G D R v1 (f k) (g k) = v2 at *
      generalize netI (f k) (g k) = x at *
      go_wp2_with fail
      (with_reducible refine (NE.out _).mono ?_)
      rintro e w11 ⟨rfl, hb11⟩
      obtain ⟨c11, cc11, fc11, zc11⟩ := c10.next hb11
      obtain ⟨s11, cs11, fs11, zs11⟩ := s10.next hb11
      obtain ⟨t11, ct11, ft11, zt11⟩ := t10.next hb11
      have B11 := below_call B10 hb11
      have q2 := (B11.cell (p := ⟨b, off + k * 2, none⟩) hb).trans R0.out
      have q3 := (B11.cell (p := ⟨b, off + k * 2 + 1, none⟩) hb).trans R1.out
      clear q0 q1 cc10 fc10 zc10 cs10 fs10 zs10 ct10 ft10 zt10
      have three : (x ≤ m1 ∧ -x ≤ m1 ∧ max (max m1 x) (-x) = m1) ∨ (m1 < x ∧ -x < x ∧ max (max m1 x) (-x) = x) ∨ (¬ m1 < x ∧ m1 < -x ∧ max (max m1 x) (-x) = -x) := by omega
      rcases three with ⟨y1, y2, y3⟩ | ⟨y1, y2, y3⟩ | ⟨y1, y2, y3⟩
      all_goals
        rw [y3] at hi2
        clear y3
        go_wp2_with fail
        have K11 : St w w11 T #[.int .i64 G, .int .i64 D, .int .i64 R] #[.int .i64 p, .int .i64 v] #[.int .i64 p1, .int .i64 v1] := ⟨c11, s11, t11, B11⟩
        have HB := Lib.hid hb
        go_region_held3 (fun w' => (∀ i, w'.cell? ⟨w.heap.size, i, none⟩ = (#[.int .i64 G, .int .i64 D, .int .i64 R] : Array Value)[i]?) ∧ (∀ i, w'.cell? ⟨T, i, none⟩ = (#[.int .i64 p1, .int .i64 v1] : Array Value)[i]?) ∧ w'.cell? ⟨b, off + k * 2, none⟩ = some (.int .i64 (f k)) ∧ w'.cell? ⟨b, off + k * 2 + 1, none⟩ = some (.int .i64 (g k)))
          (first | exact K11.held HB R0 R1 | exact K12.held HB R0 R1 | exact (K12.alloc _).held HB R0 R1 | exact (K11.alloc _).held HB R0 R1 | exact (K12.far2 (by omega) (by omega) _ _).held HB R0 R1)
          (first
            | (go_at_call 16; refine (ST.out _).mono ?_; rintro e w12 ⟨rfl, hb12⟩; first | (have K12 := K11.drew.call hb12) | (have K12 := (K11.drew.alloc _).call hb12; obtain ⟨n12, cn12, fn12, zn12⟩ := (show Blk (w11.drew.alloc (.cells #[.int .i64 0, .int .i64 0] 32)) w11.heap.size 32 #[.int .i64 0, .int .i64 0] from Blk.new w11.drew 32 _).next hb12)))
        all_goals
          have ft12 := K12.2.2.1.frozen
          have zt12 := K12.2.2.1.lt
          have ct12 := K12.2.2.1.cell
          go_wp2_with fail
        all_goals
          first
            | (have F := (K12.put zs2 (.int .i64 p2) (.int .i64 v2)).alloc (.cells #[.int .i64 p2, .int .i64 v2] 32)
               obtain ⟨F1, F2, F3, F4⟩ := F
               with_reducible refine ⟨⟨k + 1, _, p2, v2, ?_, rfl, ?_, ?_, ?_, F1, F2, F3, F4, hi2⟩, ?_⟩)
            | (have F := (K12.far2 (B := w11.heap.size) (i := 0) (j := 1) (by omega) (by omega) (.int .i64 p2) (.int .i64 v2)).put zs2 (.int .i64 p2) (.int .i64 v2)
               obtain ⟨F1, F2, F3, F4⟩ := F
               with_reducible refine ⟨⟨k + 1, _, p2, v2, ?_, rfl, ?_, ?_, ?_, F1, F2, F3, F4, hi2⟩, ?_⟩)
            | (have F := (K12.put zs2 (.int .i64 p2) (.int .i64 v2)).far2 (B := w11.heap.size) (i := 0) (j := 1) (by omega) (by omega) (.int .i64 p2) (.int .i64 v2)
               obtain ⟨F1, F2, F3, F4⟩ := F
               with_reducible refine ⟨⟨k + 1, _, p2, v2, ?_, rfl, ?_, ?_, ?_, F1, F2, F3, F4, hi2⟩, ?_⟩)
        all_goals first | omega | go_num | (simp [intOf]; omega)
    · obtain rfl : k = n := by omega
      have he := fast_end hi.out
      have FS := Lib.hid (fun W => Fastest_yes (D := D) p v m1 k HH.out ⟨hm0, hm1, by omega, by omega⟩ W)
      generalize fastN G R v m1 k = lim at *
      go_wp2_with fail
      (with_reducible refine (FS.out _).mono ?_)
      rintro e w11 ⟨rfl, hb11⟩
      obtain ⟨t11, ct11, ft11, zt11⟩ := t10.next hb11
      have B11 := below_call B10 hb11
      go_wp2_with fail
      (with_reducible refine (size_any _ _ _).mono ?_)
      rintro e w12 ⟨rfl, hb12⟩
      have B12 := below_call B11 hb12
      go_wp2_with fail
      go_ret
      exact ⟨rfl, B12⟩
theorem fast_any (G D R p v : Int) (A : Option Addr) (n c : Nat) (f g : Nat → Int) (hm : n ≤ 9223372036854775807) (w : World)
    (hA : 0 < n → ∃ b off, A = some ⟨b, off, none⟩ ∧ b < w.heap.size ∧ ∀ k, k < n → w.cell? ⟨b, off + k * 2, none⟩ = some (.int .i64 (f k)) ∧ w.cell? ⟨b, off + k * 2 + 1, none⟩ = some (.int .i64 (g k))) : Calls Try.prog 9 #[.agg #[.int .i64 G, .int .i64 D, .int .i64 R], .agg #[.int .i64 p, .int .i64 v], .slice A n c] w fun e w' => e = .returned (.bool true) ∧ Below w.heap.size w w' := by
  by_cases h : okC G D R
  · by_cases hn : n ≤ 200
    · exact fast_short p v A n c f g h hn w hA
    · exact fast_long p v A n c h (by omega) (by omega) w
  · exact fast_no p v A n c h w

end Go.Proofs.Ytckhlcifpeocdaa
