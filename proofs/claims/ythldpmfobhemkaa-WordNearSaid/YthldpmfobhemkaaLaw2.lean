/- The walk of WordSymmetric. -/
import Derived.Test.YthldpmfobhemkaaLaw1
namespace Go.Proofs.Ythldpmfobhemkaa
open Go.RowKit

def clp (n lo hi : Int) : Int := max lo (min n hi)
theorem cClip_any (n lo hi : Int) (w : World) : Calls Try.prog 21 #[.int .i64 n, .int .i64 lo, .int .i64 hi] w fun e w' => e = .returned (.int .i64 (clp n lo hi)) ∧ w = w' := by
  unfold clp
  go_enter Try.func21, Try.ntmps21
  go_wp2
  go_ret
  exact ⟨rfl, rfl⟩
theorem rnd_le {x B : Int} (n : Nat) (m : Int) (hB : 0 ≤ B) (h : -B ≤ x) (h2 : x ≤ B) : -B ≤ rnd x n m ∧ rnd x n m ≤ B + 1 := by
  have a := q_le n hB h h2
  rcases rnd_near x n m with e | ⟨e, _⟩ <;> omega
set_option maxHeartbeats 2000000 in
theorem symm_any (x a : Int) (ha : 0 ≤ a) (w : World) : Calls Try.prog 7 #[.int .i64 x, .int .u8 a] w fun e w' => e = .returned (.bool true) ∧ Below w.heap.size w w' := by
  have hx : -4611686018427387904 ≤ clp x (-4611686018427387904) 4611686018427387904 ∧ clp x (-4611686018427387904) 4611686018427387904 ≤ 4611686018427387904 := by unfold clp; omega
  have ea : a.tmod 63 = a % 63 := Int.tmod_eq_emod_of_nonneg ha
  obtain ⟨k, hk⟩ : ∃ k : Nat, a % 63 = k := ⟨(a % 63).toNat, by omega⟩
  have hk62 : k ≤ 62 := by omega
  go_enter Try.func7, Try.ntmps7
  go_wp2_with fail
  (with_reducible refine (awake_any _).mono ?_)
  rintro e w1 ⟨rfl, hb1⟩
  go_wp2_with (go_at_call 21; (with_reducible refine (cClip_any _ _ _ _).mono ?_); rintro e w' ⟨rfl, rfl⟩)
  generalize clp x (-4611686018427387904) 4611686018427387904 = x at *
  have hz := hb1.size
  have HS := Lib.hid fun (m : Int) (hm : m = 1 ∨ m = 3) => Shift_pos x k m hk62 (by omega) (by omega) (by omega) (by omega)
  have HN := Lib.hid fun (m : Int) (hm : m = 1 ∨ m = 3) => Shift_pos (-x) k m hk62 (by omega) (by omega) (by omega) (by omega)
  have HE := Lib.hid fun (m : Int) (hm : m = 1 ∨ m = 3) => rnd_neg x k hm
  have HL := Lib.hid fun (m : Int) => rnd_le (x := x) (B := 4611686018427387904) k m (by decide) hx.1 hx.2
  have en : IntKind.i64.wrap (-x) = -x := IntWalk.i64_in _ (by omega)
  clear hk ea
  go_loopw [21] (fun i wr => ∃ r : Nat, r ≤ 2 ∧ i = .int .i64 r ∧ w1.heap.size < wr.heap.size ∧ wr.cell? ⟨w1.heap.size, 0, none⟩ = some (.int .i64 1) ∧ wr.cell? ⟨w1.heap.size, 1, none⟩ = some (.int .i64 3) ∧ Below w.heap.size w wr) (fun i _ => 2 - (intOf i).toNat)
  case atStart => exact ⟨0, by omega, rfl, by simp, ((Blk.new w1 _ _).cell 0).trans rfl, ((Blk.new w1 _ _).cell 1).trans rfl, below_box hb1 _⟩
  case round =>
    obtain ⟨r, hr, rfl, hlt, c0, c1, B⟩ := hrel
    have ways : r = 0 ∨ r = 1 ∨ r = 2 := by omega
    rcases ways with rfl | rfl | rfl
    · have S := HS.out 1 (by omega)
      have S2 := HN.out 1 (by omega)
      rw [HE.out 1 (by omega)] at S2
      have hl := HL.out 1
      have S := Lib.hid S
      have S2 := Lib.hid S2
      generalize rnd x k 1 = y at *
      have e1 : IntKind.i64.wrap (-y) = -y := IntWalk.i64_in _ (by omega)
      have e2 : IntKind.i64.wrap y = y := IntWalk.i64_in _ (by omega)
      go_wp2_with fail
      (with_reducible refine (S.out _).mono ?_)
      rintro e w2 ⟨rfl, hb2⟩
      have B2 := below_call B hb2
      go_wp2_with fail
      (with_reducible refine (S2.out _).mono ?_)
      rintro e w3 ⟨rfl, hb3⟩
      have B3 := below_call B2 hb3
      have hs2 := hb2.size
      have hs3 := hb3.size
      have k0 := ((hb3.cell (p := ⟨w1.heap.size, 0, none⟩) (by simp; omega)).trans (hb2.cell (p := ⟨w1.heap.size, 0, none⟩) (by simp; omega))).trans c0
      have k1 := ((hb3.cell (p := ⟨w1.heap.size, 1, none⟩) (by simp; omega)).trans (hb2.cell (p := ⟨w1.heap.size, 1, none⟩) (by simp; omega))).trans c1
      go_wp2_with fail
      exact ⟨⟨1, by omega, by go_num, by omega, k0, k1, B3⟩, by simp [intOf]⟩
    · have S := HS.out 3 (by omega)
      have S2 := HN.out 3 (by omega)
      rw [HE.out 3 (by omega)] at S2
      have hl := HL.out 3
      have S := Lib.hid S
      have S2 := Lib.hid S2
      generalize rnd x k 3 = y at *
      have e1 : IntKind.i64.wrap (-y) = -y := IntWalk.i64_in _ (by omega)
      have e2 : IntKind.i64.wrap y = y := IntWalk.i64_in _ (by omega)
      go_wp2_with fail
      (with_reducible refine (S.out _).mono ?_)
      rintro e w2 ⟨rfl, hb2⟩
      have B2 := below_call B hb2
      go_wp2_with fail
      (with_reducible refine (S2.out _).mono ?_)
      rintro e w3 ⟨rfl, hb3⟩
      have B3 := below_call B2 hb3
      have hs2 := hb2.size
      have hs3 := hb3.size
      have k0 := ((hb3.cell (p := ⟨w1.heap.size, 0, none⟩) (by simp; omega)).trans (hb2.cell (p := ⟨w1.heap.size, 0, none⟩) (by simp; omega))).trans c0
      have k1 := ((hb3.cell (p := ⟨w1.heap.size, 1, none⟩) (by simp; omega)).trans (hb2.cell (p := ⟨w1.heap.size, 1, none⟩) (by simp; omega))).trans c1
      go_wp2_with fail
      exact ⟨⟨2, by omega, by go_num, by omega, k0, k1, B3⟩, by simp [intOf]⟩
    · go_wp2_with fail
      go_ret
      exact ⟨rfl, B⟩
end Go.Proofs.Ythldpmfobhemkaa
