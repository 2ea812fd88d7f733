/- The walk of ShareAllows. -/
import Derived.Test.YtfopcmiphklcdaaAllow
import Derived.Test.YtfopcmiphklcdaaLaw1
namespace Go.Proofs.Ytfopcmiphklcdaa
open Go.RowKit


set_option maxRecDepth 20000 in
set_option maxHeartbeats 4000000 in
theorem allows_any (A : Option Addr) (k cl bl ol : Nat) (L : Nat → Dr) (v so ha mo : Int) (hm : 0 ≤ mo ∧ mo ≤ 65535) (hvb : -9223372036854775808 ≤ v) (w : World) (hR : Row w A k bl ol L) : Calls Try.prog 8 #[.slice A k cl, .agg #[.int .i64 v, .int .i64 so, .int .i64 ha], .int .u16 mo] w fun e w' => e = .returned (.bool true) ∧ Below w.heap.size w w' := by
  by_cases hk : 40 < k
  · have q1 : decide ((40 : Int) < (k : Int)) = true := decide_eq_true (by omega)
    have q2 : decide (40 < k) = true := decide_eq_true hk
    clear hR
    have KK : Kp w (w.alloc (.cells #[.int .i64 v, .int .i64 so, .int .i64 ha] 52)) [(w.heap.size, 52, #[.int .i64 v, .int .i64 so, .int .i64 ha])] := (Kp.base w).new _ _
    go_enter Try.func8, Try.ntmps8
    have cB := KK.1.cell
    go_wp2_with fail
    (with_reducible refine (awake_any _).mono ?_)
    rintro e w1 ⟨rfl, hb1⟩
    replace KK := KK.call hb1
    clear hb1 cB
    have cB := KK.1.cell
    go_wp2_with fail
    (with_reducible refine (awake_any _).mono ?_)
    rintro e w1 ⟨rfl, hb1⟩
    replace KK := KK.call hb1
    clear hb1 cB
    have cB := KK.1.cell
    go_wp2_with fail
    go_ret
    exact ⟨ret_bool (by simp), KK.2⟩
  · have q1 : decide ((40 : Int) < (k : Int)) = false := decide_eq_false (by omega)
    have q2 : decide (40 < k) = false := decide_eq_false hk
    by_cases hE : alE so ha k L = 0
    · obtain ⟨⟨h8, hok⟩, hs0, hs1, hs2⟩ := alE_zero hE
      have AY := Lib.hid (fun v' W (K : Kp w W [(w.heap.size, 52, #[.int .i64 v, .int .i64 so, .int .i64 ha])]) => Allow_yes v' so ha A k cl bl ol L hE W (hR.mono K.below))
      have RY := Lib.hid (fun W (K : Kp w W [(w.heap.size, 52, #[.int .i64 v, .int .i64 so, .int .i64 ha])]) => rAllow_yes v so ha A k cl bl ol L hE W (hR.mono K.below))
      have N0 : Hid (∀ w, Calls Try.prog 14 #[.nilIface] w fun e w' => e = .returned (.int .i64 0) ∧ w = w') := Lib.hid (num_any 0)
      have BB := Lib.hid (fun j (hj : j < k) => @alw_bd v so ha (L j) (hok j hj) hs1)
      have BC := Lib.hid (fun j (hj : j < k) => (@alw_bd (v + mo) so ha (L j) (hok j hj) hs1).1)
      have MM := Lib.hid (fun j (hj : j < k) => @alw_mono v (v + mo) so ha (L j) (hok j hj) hs1 (by omega))
      obtain ⟨fa, hfa⟩ : ∃ fa : Nat → Int, (fun i => alw v so ha (L i)) = fa := ⟨_, rfl⟩
      have HR := Lib.hid hR
      have AV := Lib.hid (AY.out v)
      rw [hfa] at AV RY
      replace hfa := Lib.hid (fun j => congrFun hfa j)
      have wm : IntKind.i64.wrap mo = mo := IntWalk.i64_in _ (by omega)
      clear hE hok hR
      by_cases hv : 1099511627776 < v
      · have q3 : decide (1099511627776 < v) = true := decide_eq_true hv
        have KK : Kp w (w.alloc (.cells #[.int .i64 v, .int .i64 so, .int .i64 ha] 52)) [(w.heap.size, 52, #[.int .i64 v, .int .i64 so, .int .i64 ha])] := (Kp.base w).new _ _
        go_enter Try.func8, Try.ntmps8
        have cB := KK.1.cell
        go_wp2_with fail
        (with_reducible refine (awake_any _).mono ?_)
        rintro e w1 ⟨rfl, hb1⟩
        replace KK := KK.call hb1
        clear hb1 cB
        have cB := KK.1.cell
        go_wp2_with fail
        (with_reducible refine (AV.out _ KK).mono ?_)
        rintro e w1 ⟨⟨O, g, c, rfl, OA⟩, hb1⟩
        replace KK := KK.call hb1
        clear hb1 cB
        have cB := KK.1.cell
        go_wp2_with fail
        (with_reducible refine (RY.out _ KK).mono ?_)
        rintro e w1 ⟨⟨O2, g2, c2, rfl, OB⟩, hb1⟩
        replace KK := KK.call hb1
        replace OA := OA.call hb1
        clear hb1 cB
        have cB := KK.1.cell
        have IN := Ints_any O O2 k k c c2 g 0 g2 0 fa fa (by omega) _ OA.ir OB.ir
        rw [eqB_refl] at IN
        replace IN := Lib.hid IN
        clear OB
        go_wp2_with fail
        (with_reducible refine (IN.out).mono ?_)
        rintro e w1 ⟨rfl, hb1⟩
        replace KK := KK.call hb1
        replace OA := OA.call hb1
        clear hb1 cB
        have cB := KK.1.cell
        go_wp2_with fail
        (with_reducible refine (N0.out _).mono ?_)
        rintro e w' ⟨rfl, rfl⟩
        go_wp2_with fail
        go_ret
        exact ⟨ret_bool (by simp), KK.2⟩
      · have q3 : decide (1099511627776 < v) = false := decide_eq_false hv
        have v1 : IntKind.i64.wrap (v + mo) = v + mo := IntWalk.i64_in _ (by omega)
        have AM := AY.out (v + mo)
        obtain ⟨fb, hfb⟩ : ∃ fb : Nat → Int, (fun i => alw (v + mo) so ha (L i)) = fb := ⟨_, rfl⟩
        rw [hfb] at AM
        replace AM := Lib.hid AM
        replace hfb := Lib.hid (fun j => congrFun hfb j)
        have KK : Kp w (w.alloc (.cells #[.int .i64 v, .int .i64 so, .int .i64 ha] 52)) [(w.heap.size, 52, #[.int .i64 v, .int .i64 so, .int .i64 ha])] := (Kp.base w).new _ _
        go_enter Try.func8, Try.ntmps8
        have cB := KK.1.cell
        go_wp2_with fail
        (with_reducible refine (awake_any _).mono ?_)
        rintro e w1 ⟨rfl, hb1⟩
        replace KK := KK.call hb1
        clear hb1 cB
        have cB := KK.1.cell
        go_wp2_with fail
        (with_reducible refine (AV.out _ KK).mono ?_)
        rintro e w1 ⟨⟨O, g, c, rfl, OA⟩, hb1⟩
        replace KK := KK.call hb1
        clear hb1 cB
        have cB := KK.1.cell
        go_wp2_with fail
        (with_reducible refine (RY.out _ KK).mono ?_)
        rintro e w1 ⟨⟨O2, g2, c2, rfl, OB⟩, hb1⟩
        replace KK := KK.call hb1
        replace OA := OA.call hb1
        clear hb1 cB
        have cB := KK.1.cell
        have IN := Ints_any O O2 k k c c2 g 0 g2 0 fa fa (by omega) _ OA.ir OB.ir
        rw [eqB_refl] at IN
        replace IN := Lib.hid IN
        clear OB
        go_wp2_with fail
        (with_reducible refine (IN.out).mono ?_)
        rintro e w1 ⟨rfl, hb1⟩
        replace KK := KK.call hb1
        replace OA := OA.call hb1
        clear hb1 cB
        have cB := KK.1.cell
        go_wp2_with fail
        (with_reducible refine (N0.out _).mono ?_)
        rintro e w' ⟨rfl, rfl⟩
        go_wp2_with fail
        (with_reducible refine (AM.out _ KK).mono ?_)
        rintro e w1 ⟨⟨O3, g3, c3, rfl, OC⟩, hb1⟩
        replace KK := KK.call hb1
        replace OA := OA.call hb1
        clear hb1 cB
        have cB := KK.1.cell
        go_wp2_with fail
        clear cB
        go_loopw [86] (fun i wr => ∃ j : Nat, i = .int .i64 (j : Int) ∧ j ≤ k ∧ (∃ lo, ORow wr lo O g k fa) ∧ (∃ lo, ORow wr lo O3 g3 k fb) ∧ Kp w wr [(w.heap.size, 52, #[.int .i64 v, .int .i64 so, .int .i64 ha])]) (fun i _ => k - (intOf i).toNat)
        case atStart => exact ⟨0, rfl, Nat.zero_le _, ⟨_, OA⟩, ⟨_, OC⟩, KK⟩
        case round =>
          clear KK OA OC
          obtain ⟨j, rfl, hle, ⟨lo, OA⟩, ⟨lo3, OC⟩, KK⟩ := hrel
          by_cases hlt : j < k
          · have g1 : decide ((j : Int) < (k : Int)) = true := decide_eq_true (by omega)
            have g2 : decide (j < k) = true := decide_eq_true hlt
            obtain ⟨eA, c0, c1, _, _⟩ := HR.out.at KK.below hlt
            subst eA
            obtain rfl : O = some ⟨g, 0, none⟩ := (OA (by omega)).1
            obtain rfl : O3 = some ⟨g3, 0, none⟩ := (OC (by omega)).1
            have cA := (OA.at hlt).1
            have cC := (OC.at hlt).1
            have b1 := BB.out j hlt
            have b2 := BC.out j hlt
            have b3 := MM.out j hlt
            rw [hfa.out j] at b1 b3
            rw [hfb.out j] at b2 b3
            obtain ⟨x, hx⟩ : ∃ x, fa j = x := ⟨_, rfl⟩
            obtain ⟨y, hy⟩ : ∃ y, fb j = y := ⟨_, rfl⟩
            obtain ⟨z, hz⟩ : ∃ z, (L j).b = z := ⟨_, rfl⟩
            rw [hx] at cA b1 b3
            rw [hy] at cC b2 b3
            rw [hz] at c1 b1
            clear hx hy hz
            have p1 : decide (x < y) = false := decide_eq_false (by omega)
            have p2 : decide (y < 0) = false := decide_eq_false (by omega)
            have p3 : decide (z < x) = false := decide_eq_false (by omega)
            clear b1 b2 b3 c0
            go_wp2_with fail
            go_quiet (fail)
            have KK := KK.drewN nq
            have OA := OA.call (below_drewN (Below.refl _ _) nq)
            have OC := OC.call (below_drewN (Below.refl _ _) nq)
            generalize _root_.Go.World.drewN _ nq = wg at KK OA OC ⊢
            go_wp2_with fail
            exact ⟨⟨j + 1, by go_num, by omega, ⟨lo, OA⟩, ⟨lo3, OC⟩, KK⟩, by simp [intOf]; omega⟩
          · have g1 : decide ((j : Int) < (k : Int)) = false := decide_eq_false (by omega)
            have g2 : decide (j < k) = false := decide_eq_false hlt
            go_wp2_with fail
            go_ret
            exact ⟨rfl, KK.2⟩
    · have AB := Lib.hid (fun W (K : Kp w W [(w.heap.size, 52, #[.int .i64 v, .int .i64 so, .int .i64 ha])]) => Allow_bad v so ha A k cl bl ol L hE W (hR.mono K.below))
      have RB := Lib.hid (fun W (K : Kp w W [(w.heap.size, 52, #[.int .i64 v, .int .i64 so, .int .i64 ha])]) => rAllow_bad v so ha A k cl bl ol L hE W (hR.mono K.below))
      obtain ⟨cd, hcd⟩ : ∃ cd, alE so ha k L = cd := ⟨_, rfl⟩
      rw [hcd, errV_pos (by rw [← hcd]; exact hE)] at AB
      rw [hcd] at RB hE
      have NC := num_any cd
      rw [errV_pos hE] at NC
      replace NC := Lib.hid NC
      replace AB := Lib.hid AB.out
      have qc : (cd != cd) = false := by simp
      have IN : Hid (∀ w, Calls Try.prog 18 #[.slice none 0 0, .slice none 0 0] w fun e w' => e = .returned (.bool true) ∧ Below w.heap.size w w') := Lib.hid (fun w => Ints_any none none 0 0 0 0 0 0 0 0 (fun _ => 0) (fun _ => 0) (by omega) w (fun h => absurd h (by omega)) (fun h => absurd h (by omega)))
      clear hcd hE hR
      have KK : Kp w (w.alloc (.cells #[.int .i64 v, .int .i64 so, .int .i64 ha] 52)) [(w.heap.size, 52, #[.int .i64 v, .int .i64 so, .int .i64 ha])] := (Kp.base w).new _ _
      go_enter Try.func8, Try.ntmps8
      have cB := KK.1.cell
      go_wp2_with fail
      (with_reducible refine (awake_any _).mono ?_)
      rintro e w1 ⟨rfl, hb1⟩
      replace KK := KK.call hb1
      clear hb1 cB
      have cB := KK.1.cell
      go_wp2_with fail
      (with_reducible refine (AB.out _ KK).mono ?_)
      rintro e w1 ⟨rfl, hb1⟩
      replace KK := KK.call hb1
      clear hb1 cB
      have cB := KK.1.cell
      go_wp2_with fail
      (with_reducible refine (RB.out _ KK).mono ?_)
      rintro e w1 ⟨rfl, hb1⟩
      replace KK := KK.call hb1
      clear hb1 cB
      have cB := KK.1.cell
      go_wp2_with fail
      (with_reducible refine (IN.out _).mono ?_)
      rintro e w1 ⟨rfl, hb1⟩
      replace KK := KK.call hb1
      clear hb1 cB
      have cB := KK.1.cell
      go_wp2_with fail
      (with_reducible refine (NC.out _).mono ?_)
      rintro e w' ⟨rfl, rfl⟩
      go_wp2_with fail
      go_ret
      exact ⟨ret_bool (by simp), KK.2⟩

end Go.Proofs.Ytfopcmiphklcdaa
