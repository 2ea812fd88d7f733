/- HandoverMoves: over any ticks the output moves by the speed and at most 'most' more. -/
import Derived.Test.YtifdgcenpnnciaaReach
namespace Go.Proofs.Ytifdgcenpnnciaa
open Go.RowKit

theorem stp_le (m x a v : Int) : 0 ≤ stp m x a v ∧ stp m x a v < 4294967296 := by unfold stp; omega
theorem move_law {m y a v : Int} (hm : 0 ≤ m) (hm2 : m ≤ 1073741824) (hv : -1073741824 ≤ v) (hv2 : v ≤ 1073741824) :
    ∃ c : Int, (stp m y a v - y - v + 2147483648) % 4294967296 - 2147483648 = c ∧ -m ≤ c ∧ c ≤ m := by
  refine ⟨max (-m) (min (dst (y % 4294967296 + max (-1073741824) (min v 1073741824)) a) m), ?_, by omega, by omega⟩
  have e1 : max (-1073741824) (min v 1073741824) = v := by omega
  unfold stp
  rw [e1]
  have h4 : -1073741824 ≤ max (-m) (min (dst (y % 4294967296 + v) a) m) ∧ max (-m) (min (dst (y % 4294967296 + v) a) m) ≤ 1073741824 := by omega
  generalize max (-m) (min (dst (y % 4294967296 + v) a) m) = c at *
  omega
theorem lnear_at {n c : Int} (H : Hid ((n + 2147483648) % 4294967296 - 2147483648 = c)) (w : World) (h : -4611686018427387904 ≤ n) (h2 : n ≤ 4611686018427387904) :
    Calls Try.prog 18 #[.int .i64 n] w fun e w' => e = .returned (.int .i64 c) ∧ w = w' := by
  rw [← H.out]
  exact lnear_any n w h h2

set_option maxHeartbeats 2000000 in
theorem moves_long (M ang : Int) (A : Option Addr) (n c : Nat) (w : World) (hn : 60 < n) (hn2 : n ≤ 9223372036854775807) :
    Calls Try.prog 4 #[.int .i64 M, .int .i64 ang, .slice A n c] w fun e w' => e = .returned (.bool true) ∧ Below w.heap.size w w' := by
  go_enter Try.func4, Try.ntmps4
  go_wp2_with (go_at_call 7; refine (awake_any _).mono ?_; rintro e w1 ⟨rfl, hb1⟩)
  go_ret
  exact ⟨rfl, hb1⟩

set_option maxHeartbeats 2000000 in
theorem moves_short (M ang m : Int) (A : Option Addr) (n c : Nat) (f g : Nat → Int) (w : World) (hn : n ≤ 60) (HM : Hid (max 0 (min M 1073741824) = m))
    (hA : 0 < n → ∃ b off, A = some ⟨b, off, none⟩ ∧ b < w.heap.size ∧ ∀ k, k < n → w.cell? ⟨b, off + k * 2, none⟩ = some (.int .i64 (f k)) ∧ w.cell? ⟨b, off + k * 2 + 1, none⟩ = some (.int .i64 (g k))) :
    Calls Try.prog 4 #[.int .i64 M, .int .i64 ang, .slice A n c] w fun e w' => e = .returned (.bool true) ∧ Below w.heap.size w w' := by
  have km := HM.out
  have k1 : 0 ≤ m ∧ m ≤ 1073741824 := by omega
  clear km
  have HA := Lib.hid hA
  clear hA
  go_enter Try.func4, Try.ntmps4
  go_wp2_with (first
    | (go_at_call 7; refine (awake_any _).mono ?_; rintro e w1 ⟨rfl, hb1⟩)
    | (go_at_call 17; (with_reducible refine (clip_at HM _).mono ?_); rintro e w' ⟨rfl, rfl⟩)
    | (go_at_call 15; refine (Reset_any _ _).mono ?_; rintro e w2 ⟨rfl, hb2⟩))
  have p2 := Blk.new w2 23 #[.int .i64 (ang * 65536 % 4294967296), .bool true]
  have B2 := below_box (below_call hb1 hb2) (.cells #[.int .i64 (ang * 65536 % 4294967296), .bool true] 23)
  have hS : w.heap.size ≤ w2.heap.size := Nat.le_trans hb1.size hb2.size
  clear hb1 hb2
  go_loopw [27] (fun i wr => ∃ (k : Nat) (y : Int), k ≤ n ∧ i = .int .i64 k ∧ 0 ≤ y ∧ y < 4294967296 ∧ Blk wr w2.heap.size 23 #[.int .i64 y, .bool true] ∧ Below w.heap.size w wr)
    (fun i _ => n - (intOf i).toNat)
  case atStart => exact ⟨0, _, Nat.zero_le _, rfl, by omega, by omega, p2, B2⟩
  case round =>
    obtain ⟨k, y, hk, rfl, hy, hy2, p, B⟩ := hrel
    obtain ⟨cp, fp⟩ := And.intro p.cell p.frozen
    have zp := p.lt
    by_cases hlt : k < n
    · obtain ⟨b, off, rfl, hb, hcells⟩ := HA.out (by omega)
      obtain ⟨c0, c1⟩ := hcells k hlt
      replace c0 := (B.cell (p := ⟨b, off + k * 2, none⟩) hb).trans c0
      replace c1 := (B.cell (p := ⟨b, off + k * 2 + 1, none⟩) hb).trans c1
      clear hcells
      obtain ⟨V, hV⟩ : ∃ V, max (-1073741824) (min (g k) 1073741824) = V := ⟨_, rfl⟩
      have v1 : -1073741824 ≤ V ∧ V ≤ 1073741824 := by omega
      have HV := Lib.hid hV
      obtain ⟨D, hD, d1, d2⟩ := move_law (y := y) (a := f k) k1.1 k1.2 v1.1 v1.2
      have HD := Lib.hid hD
      have hst := stp_le m y (f k) V
      clear hV hD
      go_wp2_with fail
      refine (clip_at HV _).mono ?_
      rintro e w' ⟨rfl, rfl⟩
      go_wp2_with fail
      refine (Step_run _ _ _ _ _ k1.1 k1.2).mono ?_
      rintro e w3 ⟨rfl, hb3⟩
      obtain ⟨p3, cp3, fp3, zp3⟩ := (p.alloc _).next hb3
      obtain ⟨q3, cq3, fq3, zq3⟩ := (Blk.new wr _ _).next hb3
      have B3 := below_call (below_box B _) hb3
      clear cp fp c0 c1
      go_wp2_with fail
      refine (lnear_at HD _ (by omega) (by omega)).mono ?_
      rintro e w' ⟨rfl, rfl⟩
      go_wp2_with fail
      exact ⟨⟨k + 1, stp m y (f k) V, by omega, by go_num, hst.1, hst.2, ((p3.put 0 _).put 1 _).alloc _,
        below_box ((B3.setCell (p := ⟨w2.heap.size, 0, none⟩) hS _).setCell (p := ⟨w2.heap.size, 1, none⟩) hS _) _⟩, by simp [intOf]; omega⟩
    · go_wp2_with fail
      go_ret
      exact ⟨rfl, B⟩
end Go.Proofs.Ytifdgcenpnnciaa
