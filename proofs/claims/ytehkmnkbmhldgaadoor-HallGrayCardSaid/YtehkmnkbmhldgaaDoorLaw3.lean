/- The walk of HallGray. -/
import Derived.Test.YtehkmnkbmhldgaaDoorAwake
import Derived.Test.YtehkmnkbmhldgaaDoorCodes
namespace Go.Proofs.YtehkmnkbmhldgaaDoor
open Go.RowKit

theorem bits_one (n : Int) (h : n = 1 ∨ n = 2 ∨ n = 4) (w : World) : Calls Tryd.prog 19 #[.int .i64 n] w fun e w' => e = .returned (.int .i64 1) ∧ w = w' := by
  rcases h with rfl | rfl | rfl
  · go_enter Tryd.func19, Tryd.ntmps19
    go_wp2_with fail
    go_loopw [3, 4] (fun o i wr => ((i = .int .i64 0 ∧ o = .int .i64 0) ∨ (i = .int .i64 1 ∧ o = .int .i64 1) ∨ (i = .int .i64 2 ∧ o = .int .i64 1) ∨ (i = .int .i64 3 ∧ o = .int .i64 1)) ∧ wr = w) (fun o i _ => 3 - (intOf i).toNat)
    case atStart => exact ⟨.inl ⟨rfl, rfl⟩, rfl⟩
    case round =>
      obtain ⟨⟨rfl, rfl⟩ | ⟨rfl, rfl⟩ | ⟨rfl, rfl⟩ | ⟨rfl, rfl⟩, rfl⟩ := hrel
      · go_wp2_with fail
        exact ⟨⟨.inr (.inl ⟨rfl, by kernel_rfl⟩), trivial⟩, by simp [intOf]⟩
      · go_wp2_with fail
        exact ⟨⟨.inr (.inr (.inl ⟨rfl, by kernel_rfl⟩)), trivial⟩, by simp [intOf]⟩
      · go_wp2_with fail
        exact ⟨⟨.inr (.inr (.inr ⟨rfl, by kernel_rfl⟩)), trivial⟩, by simp [intOf]⟩
      · go_wp2_with fail
        go_ret
        exact ⟨rfl, rfl⟩
  · go_enter Tryd.func19, Tryd.ntmps19
    go_wp2_with fail
    go_loopw [3, 4] (fun o i wr => ((i = .int .i64 0 ∧ o = .int .i64 0) ∨ (i = .int .i64 1 ∧ o = .int .i64 0) ∨ (i = .int .i64 2 ∧ o = .int .i64 1) ∨ (i = .int .i64 3 ∧ o = .int .i64 1)) ∧ wr = w) (fun o i _ => 3 - (intOf i).toNat)
    case atStart => exact ⟨.inl ⟨rfl, rfl⟩, rfl⟩
    case round =>
      obtain ⟨⟨rfl, rfl⟩ | ⟨rfl, rfl⟩ | ⟨rfl, rfl⟩ | ⟨rfl, rfl⟩, rfl⟩ := hrel
      · go_wp2_with fail
        exact ⟨⟨.inr (.inl ⟨rfl, by kernel_rfl⟩), trivial⟩, by simp [intOf]⟩
      · go_wp2_with fail
        exact ⟨⟨.inr (.inr (.inl ⟨rfl, by kernel_rfl⟩)), trivial⟩, by simp [intOf]⟩
      · go_wp2_with fail
        exact ⟨⟨.inr (.inr (.inr ⟨rfl, by kernel_rfl⟩)), trivial⟩, by simp [intOf]⟩
      · go_wp2_with fail
        go_ret
        exact ⟨rfl, rfl⟩
  · go_enter Tryd.func19, Tryd.ntmps19
    go_wp2_with fail
    go_loopw [3, 4] (fun o i wr => ((i = .int .i64 0 ∧ o = .int .i64 0) ∨ (i = .int .i64 1 ∧ o = .int .i64 0) ∨ (i = .int .i64 2 ∧ o = .int .i64 0) ∨ (i = .int .i64 3 ∧ o = .int .i64 1)) ∧ wr = w) (fun o i _ => 3 - (intOf i).toNat)
    case atStart => exact ⟨.inl ⟨rfl, rfl⟩, rfl⟩
    case round =>
      obtain ⟨⟨rfl, rfl⟩ | ⟨rfl, rfl⟩ | ⟨rfl, rfl⟩ | ⟨rfl, rfl⟩, rfl⟩ := hrel
      · go_wp2_with fail
        exact ⟨⟨.inr (.inl ⟨rfl, by kernel_rfl⟩), trivial⟩, by simp [intOf]⟩
      · go_wp2_with fail
        exact ⟨⟨.inr (.inr (.inl ⟨rfl, by kernel_rfl⟩)), trivial⟩, by simp [intOf]⟩
      · go_wp2_with fail
        exact ⟨⟨.inr (.inr (.inr ⟨rfl, by kernel_rfl⟩)), trivial⟩, by simp [intOf]⟩
      · go_wp2_with fail
        go_ret
        exact ⟨rfl, rfl⟩
theorem gray_near (x m : Int) (h : -10922 ≤ m) (h2 : m ≤ 10922) : ((secN ((x + m) % 65536) : Int) - secN (x % 65536)) % 6 = 0 ∨ ((secN ((x + m) % 65536) : Int) - secN (x % 65536)) % 6 = 1 ∨ ((secN ((x + m) % 65536) : Int) - secN (x % 65536)) % 6 = 5 := by
  have hb : (x + m) % 65536 = x % 65536 + m ∨ (x + m) % 65536 = x % 65536 + m - 65536 ∨ (x + m) % 65536 = x % 65536 + m + 65536 := by omega
  have a0 : 0 ≤ x % 65536 := by omega
  have a1 : x % 65536 < 65536 := by omega
  have b0 : 0 ≤ (x + m) % 65536 := by omega
  have b1 : (x + m) % 65536 < 65536 := by omega
  generalize (x + m) % 65536 = b at *
  generalize x % 65536 = a at *
  unfold secN
  repeat' split
  all_goals omega
theorem gray_codes : ∀ j : Fin 6, ∀ k : Fin 6, (((k.val : Int) - j.val) % 6 = 0 → codL j.val = codL k.val) ∧ (((k.val : Int) - j.val) % 6 = 1 ∨ ((k.val : Int) - j.val) % 6 = 5 → bits .xor .i64 (codL j.val) (codL k.val) = 1 ∨ bits .xor .i64 (codL j.val) (codL k.val) = 2 ∨ bits .xor .i64 (codL j.val) (codL k.val) = 4) := by decide +kernel
theorem codL_le : ∀ j : Fin 6, 1 ≤ codL j.val ∧ codL j.val ≤ 6 := by decide

set_option maxHeartbeats 1000000 in
theorem gray_law (x m : Int) (w : World) (T : Tabs w) : Calls Tryd.prog 5 #[.int .i64 x, .int .i64 m] w fun e w' => e = .returned (.bool true) ∧ Below w.heap.size w w' := by
  have hx : -1099511627776 ≤ clp x (-1099511627776) 1099511627776 ∧ clp x (-1099511627776) 1099511627776 ≤ 1099511627776 := by unfold clp; omega
  have hm : -10922 ≤ clp m (-10922) 10922 ∧ clp m (-10922) 10922 ≤ 10922 := by unfold clp; omega
  go_enter Tryd.func5, Tryd.ntmps5
  go_wp2_with fail
  (with_reducible refine (awake_any _ T).mono ?_)
  rintro e w1 ⟨rfl, hb1⟩
  have T1 := T.below hb1
  go_wp2_with (go_at_call 18; (with_reducible refine (cClip_any _ _ _ _).mono ?_); rintro e w' ⟨rfl, rfl⟩)
  generalize clp x (-1099511627776) 1099511627776 = a at *
  generalize clp m (-10922) 10922 = d at *
  have e1 : IntKind.i64.wrap (a + d) = a + d := IntWalk.i64_in _ (by omega)
  have hn := gray_near a d hm.1 hm.2
  have j6 := secN_lt (a % 65536)
  have k6 := secN_lt ((a + d) % 65536)
  have CO := Lib.hid (Code_any a)
  have CP := Lib.hid (Code_any (a + d))
  have ej := secF_codeF a
  have ek := secF_codeF (a + d)
  have SJ := Lib.hid (Sector_yes (codeF a) (by rw [ej]; omega))
  have SK := Lib.hid (Sector_yes (codeF (a + d)) (by rw [ek]; omega))
  rw [ej] at SJ
  rw [ek] at SK
  clear ej ek
  change Hid (∀ w T, Calls Tryd.prog 13 #[.int .i64 a] w fun e w' => e = .returned (.int .i64 (codL (secN (a % 65536)))) ∧ w = w') at CO
  change Hid (∀ w T, Calls Tryd.prog 13 #[.int .i64 (a + d)] w fun e w' => e = .returned (.int .i64 (codL (secN ((a + d) % 65536)))) ∧ w = w') at CP
  change Hid (∀ w T, Calls Tryd.prog 14 #[.int .i64 (codL (secN (a % 65536)))] w fun e w' => e = .returned (.tuple #[.int .i64 (secN (a % 65536)), .nilIface]) ∧ w = w') at SJ
  change Hid (∀ w T, Calls Tryd.prog 14 #[.int .i64 (codL (secN ((a + d) % 65536)))] w fun e w' => e = .returned (.tuple #[.int .i64 (secN ((a + d) % 65536)), .nilIface]) ∧ w = w') at SK
  generalize secN (a % 65536) = j at *
  generalize secN ((a + d) % 65536) = k at *
  have hg := gray_codes ⟨j, j6⟩ ⟨k, k6⟩
  have hj := codL_le ⟨j, j6⟩
  have hk := codL_le ⟨k, k6⟩
  simp only at hg hj hk
  obtain ⟨J, hJ⟩ : ∃ J : Int, (j : Int) = J := ⟨_, rfl⟩
  obtain ⟨K, hK⟩ : ∃ K : Int, (k : Int) = K := ⟨_, rfl⟩
  have J0 : 0 ≤ J ∧ J ≤ 5 := by omega
  have K0 : 0 ≤ K ∧ K ≤ 5 := by omega
  rw [hJ] at SJ
  rw [hK] at SK
  rw [hJ, hK] at hg hn
  generalize codL j = y at *
  generalize codL k = z at *
  clear hJ hK j6 k6
  have em := tmod_mod (K - J) 6 (by decide)
  have h1 := tspec (K - J) 6 (by decide)
  have h3 : -6 < (K - J).tmod 6 ∧ (K - J).tmod 6 < 6 := by
    rcases Int.le_total 0 (K - J) with h0 | h0
    · have := h1.2.1 h0; omega
    · have := h1.2.2 h0; omega
  have e2 : IntKind.i64.wrap ((K - J).tmod 6 + 6) = (K - J).tmod 6 + 6 := IntWalk.i64_in _ (by omega)
  have e3 : IntKind.i64.wrap (K - J) = K - J := IntWalk.i64_in _ (by omega)
  clear h1
  obtain ⟨g0, g1⟩ := hg
  have hn : Hid (((K - J) % 6 = 0 ∧ y = z) ∨ ((K - J) % 6 = 1 ∧ ∃ X, bits .xor .i64 y z = X ∧ (X = 1 ∨ X = 2 ∨ X = 4)) ∨ ((K - J) % 6 = 5 ∧ ∃ X, bits .xor .i64 y z = X ∧ (X = 1 ∨ X = 2 ∨ X = 4))) := by
    rcases hn with h | h | h
    · exact .inl ⟨h, g0 h⟩
    · exact .inr (.inl ⟨h, _, rfl, g1 (.inl h)⟩)
    · exact .inr (.inr ⟨h, _, rfl, g1 (.inr h)⟩)
  clear g0 g1
  rename_i hn0
  clear hn0
  have d1 : decide (y < 1) = false := decide_eq_false (by omega)
  have d2 : decide (6 < y) = false := decide_eq_false (by omega)
  have d3 : decide (z < 1) = false := decide_eq_false (by omega)
  have d4 : decide (6 < z) = false := decide_eq_false (by omega)
  rcases hn.out with ⟨D, rfl⟩ | ⟨D, X, hX, hx3⟩ | ⟨D, X, hX, hx3⟩
  all_goals
   go_wp2_with (first
    | (go_at_call 13; (with_reducible refine (CO.out _ T1).mono ?_); rintro e w' ⟨rfl, rfl⟩)
    | (go_at_call 13; (with_reducible refine (CP.out _ T1).mono ?_); rintro e w' ⟨rfl, rfl⟩)
    | (go_at_call 14; (with_reducible refine (SJ.out _ T1).mono ?_); rintro e w' ⟨rfl, rfl⟩)
    | (go_at_call 14; (with_reducible refine (SK.out _ T1).mono ?_); rintro e w' ⟨rfl, rfl⟩)
    | (go_at_call 19; (with_reducible refine (bits_one X hx3 _).mono ?_); rintro e w' ⟨rfl, rfl⟩))
   go_ret
   exact ⟨ret_bool (by simp), hb1⟩

end Go.Proofs.YtehkmnkbmhldgaaDoor
