/- The walk of ShareDivides. -/
import Derived.Test.YtfopcmiphklcdaaAwake
import Derived.Test.YtfopcmiphklcdaaRDivide
namespace Go.Proofs.Ytfopcmiphklcdaa
open Go.RowKit

theorem num_any (c : Int) (w : World) : Calls Try.prog 14 #[errV c] w fun e w' => e = .returned (.int .i64 c) ∧ w = w' := by
  have hta : ∀ c w, (Instr.typeAssert (.iface 66 (.int .i64 c)) 26 66 true).run Try.prog w = .ok (.tuple #[.int .i64 c, .bool true]) w := fun _ _ => by kernel_rfl
  by_cases h : c = 0
  · subst h
    rw [errV_zero]
    go_enter Try.func14, Try.ntmps14
    go_wp2
    go_ret
    exact ⟨rfl, rfl⟩
  · unfold errV
    rw [if_neg h]
    go_enter Try.func14, Try.ntmps14
    go_wp2
    go_ret
    exact ⟨rfl, rfl⟩
theorem eqB_refl (f : Nat → Int) (k : Nat) : eqB f f k = true := eqB_iff.2 (fun _ _ => rfl)

set_option maxHeartbeats 4000000 in
theorem divides_any (total : Int) (A : Option Addr) (k cl bl ol : Nat) (L : Nat → Dr) (w : World) (hR : Row w A k bl ol L) : Calls Try.prog 3 #[.int .i64 total, .slice A k cl] w fun e w' => e = .returned (.bool true) ∧ Below w.heap.size w w' := by
  by_cases hk : 40 < k
  · have q1 : decide ((40 : Int) < (k : Int)) = true := decide_eq_true (by omega)
    have q2 : decide (40 < k) = true := decide_eq_true hk
    clear hR
    have KK := Kp.base w
    go_enter Try.func3, Try.ntmps3
    go_wp2_with fail
    (with_reducible refine (awake_any _).mono ?_)
    rintro e w1 ⟨rfl, hb1⟩
    replace KK := KK.call hb1
    clear hb1
    go_wp2_with fail
    (with_reducible refine (awake_any _).mono ?_)
    rintro e w1 ⟨rfl, hb1⟩
    replace KK := KK.call hb1
    clear hb1
    go_wp2_with fail
    go_ret
    exact ⟨ret_bool (by simp), KK⟩
  · have q1 : decide ((40 : Int) < (k : Int)) = false := decide_eq_false (by omega)
    have q2 : decide (40 < k) = false := decide_eq_false hk
    have CK := Lib.hid (fun W (K : Kp w W []) => Check_any A k cl bl ol L W (hR.mono K.below))
    have RC := Lib.hid (fun W (K : Kp w W []) => rCheck_any A k cl bl ol L W (hR.mono K.below))
    generalize hc : chk k L = ck at CK RC
    have NC := Lib.hid (num_any ck)
    have qc : (ck != ck) = false := by simp
    clear hc
    by_cases hG : giv total k L = 0
    · have FO := Lib.hid (fun W (K : Kp w W []) => rFormal_ok total A k cl bl ol L hG W (hR.mono K.below))
      by_cases hs : sm (fun i => (L i).a) k ≤ total
      · obtain ⟨⟨h8, hok⟩, ht⟩ := giv_zero.1 hG
        have DY := Lib.hid (fun W (K : Kp w W []) => Divide_yes total A k cl bl ol L h8 hok ht hs W (hR.mono K.below))
        have RY := Lib.hid (fun W (K : Kp w W []) => rDivide_yes total A k cl bl ol L hG hs W (hR.mono K.below))
        have s1 := @sm_bd (fun i => (L i).a) 1073741824 k (fun i hi => by have := cap_bd (hok i (by omega)); have := (hok i (by omega)).1.1; omega)
        have s2 := @sm_bd (fun i => capD (L i)) 1073741824 k (fun i hi => (cap_bd (hok i (by omega))).2.2)
        generalize sm (fun i => (L i).a) k = s at *
        generalize sm (fun i => capD (L i)) k = mo at *
        generalize divF total k L = df at *
        have v1 : IntKind.i64.wrap (min total mo - s) = min total mo - s := IntWalk.i64_in _ (by omega)
        have q3 : decide (total < s) = false := decide_eq_false (by omega)
        clear hR hok hG
        by_cases h2 : 2000 < min total mo - s
        · have q4 : decide (2000 < min total mo - s) = true := decide_eq_true h2
          clear h2 s1 s2 RY
          have KK := Kp.base w
          go_enter Try.func3, Try.ntmps3
          go_wp2_with fail
          (with_reducible refine (awake_any _).mono ?_)
          rintro e w1 ⟨rfl, hb1⟩
          replace KK := KK.call hb1
          clear hb1
          go_wp2_with fail
          (with_reducible refine (DY.out _ KK).mono ?_)
          rintro e w1 ⟨⟨O, g, c, rfl, OR⟩, hb1⟩
          replace KK := KK.call hb1
          clear hb1
          clear OR
          go_wp2_with fail
          (with_reducible refine (FO.out _ KK).mono ?_)
          rintro e w1 ⟨rfl, hb1⟩
          replace KK := KK.call hb1
          clear hb1
          go_wp2_with fail
          (with_reducible refine (CK.out _ KK).mono ?_)
          rintro e w1 ⟨rfl, hb1⟩
          replace KK := KK.call hb1
          clear hb1
          go_wp2_with fail
          (with_reducible refine (NC.out _).mono ?_)
          rintro e w' ⟨rfl, rfl⟩
          go_wp2_with fail
          (with_reducible refine (RC.out _ KK).mono ?_)
          rintro e w1 ⟨rfl, hb1⟩
          replace KK := KK.call hb1
          clear hb1
          go_wp2_with fail
          go_ret
          exact ⟨ret_bool (by simp), KK⟩
        · have q4 : decide (2000 < min total mo - s) = false := decide_eq_false h2
          clear h2 s1 s2
          have KK := Kp.base w
          go_enter Try.func3, Try.ntmps3
          go_wp2_with fail
          (with_reducible refine (awake_any _).mono ?_)
          rintro e w1 ⟨rfl, hb1⟩
          replace KK := KK.call hb1
          clear hb1
          go_wp2_with fail
          (with_reducible refine (DY.out _ KK).mono ?_)
          rintro e w1 ⟨⟨O, g, c, rfl, OR⟩, hb1⟩
          replace KK := KK.call hb1
          clear hb1
          have IA := OR.ir
          clear OR
          go_wp2_with fail
          (with_reducible refine (FO.out _ KK).mono ?_)
          rintro e w1 ⟨rfl, hb1⟩
          replace KK := KK.call hb1
          replace IA := IA.mono hb1
          clear hb1
          go_wp2_with fail
          (with_reducible refine (CK.out _ KK).mono ?_)
          rintro e w1 ⟨rfl, hb1⟩
          replace KK := KK.call hb1
          replace IA := IA.mono hb1
          clear hb1
          go_wp2_with fail
          (with_reducible refine (NC.out _).mono ?_)
          rintro e w' ⟨rfl, rfl⟩
          go_wp2_with fail
          (with_reducible refine (RC.out _ KK).mono ?_)
          rintro e w1 ⟨rfl, hb1⟩
          replace KK := KK.call hb1
          replace IA := IA.mono hb1
          clear hb1
          go_wp2_with fail
          (with_reducible refine (RY.out _ KK).mono ?_)
          rintro e w1 ⟨⟨O2, g2, c2, rfl, OR2⟩, hb1⟩
          replace KK := KK.call hb1
          replace IA := IA.mono hb1
          clear hb1
          have IN := Ints_any O O2 k k c c2 g 0 g2 0 df df (by omega) _ IA OR2.ir
          rw [eqB_refl] at IN
          replace IN := Lib.hid IN
          clear IA OR2
          go_wp2_with fail
          (with_reducible refine (IN.out).mono ?_)
          rintro e w1 ⟨rfl, hb1⟩
          replace KK := KK.call hb1
          clear hb1
          go_wp2_with fail
          go_ret
          exact ⟨ret_bool (by simp), KK⟩
      · have DO := Lib.hid (fun W (K : Kp w W []) => Divide_over total A k cl bl ol L hG (by omega) W (hR.mono K.below))
        have q3 : decide (total < sm (fun i => (L i).a) k) = true := decide_eq_true (by omega)
        have N23 : Hid (∀ w, Calls Try.prog 14 #[.iface 66 (.int .i64 23)] w fun e w' => e = .returned (.int .i64 23) ∧ w = w') := Lib.hid (num_any 23)
        generalize sm (fun i => (L i).a) k = s at *
        generalize sm (fun i => capD (L i)) k = mo at *
        clear hG hs hR
        have KK := Kp.base w
        go_enter Try.func3, Try.ntmps3
        go_wp2_with fail
        (with_reducible refine (awake_any _).mono ?_)
        rintro e w1 ⟨rfl, hb1⟩
        replace KK := KK.call hb1
        clear hb1
        go_wp2_with fail
        (with_reducible refine (DO.out _ KK).mono ?_)
        rintro e w1 ⟨rfl, hb1⟩
        replace KK := KK.call hb1
        clear hb1
        go_wp2_with fail
        (with_reducible refine (FO.out _ KK).mono ?_)
        rintro e w1 ⟨rfl, hb1⟩
        replace KK := KK.call hb1
        clear hb1
        go_wp2_with fail
        (with_reducible refine (CK.out _ KK).mono ?_)
        rintro e w1 ⟨rfl, hb1⟩
        replace KK := KK.call hb1
        clear hb1
        go_wp2_with fail
        (with_reducible refine (NC.out _).mono ?_)
        rintro e w' ⟨rfl, rfl⟩
        go_wp2_with fail
        (with_reducible refine (RC.out _ KK).mono ?_)
        rintro e w1 ⟨rfl, hb1⟩
        replace KK := KK.call hb1
        clear hb1
        go_wp2_with fail
        (with_reducible refine (N23.out _).mono ?_)
        rintro e w' ⟨rfl, rfl⟩
        go_wp2_with fail
        go_ret
        exact ⟨ret_bool (by simp), KK⟩
    · have DB := Lib.hid (fun W (K : Kp w W []) => Divide_bad total A k cl bl ol L hG W (hR.mono K.below))
      have FB := Lib.hid (fun W (K : Kp w W []) => rFormal_bad total A k cl bl ol L hG W (hR.mono K.below))
      generalize giv total k L = G at *
      have NG := Lib.hid (num_any G)
      have q3 : (G == 0) = false := by simpa using hG
      have q4 : (G != 0) = true := by simpa using hG
      have q5 : decide (G = 0) = false := decide_eq_false hG
      clear hG hR
      have KK := Kp.base w
      go_enter Try.func3, Try.ntmps3
      go_wp2_with fail
      (with_reducible refine (awake_any _).mono ?_)
      rintro e w1 ⟨rfl, hb1⟩
      replace KK := KK.call hb1
      clear hb1
      go_wp2_with fail
      (with_reducible refine (DB.out _ KK).mono ?_)
      rintro e w1 ⟨rfl, hb1⟩
      replace KK := KK.call hb1
      clear hb1
      go_wp2_with fail
      (with_reducible refine (FB.out _ KK).mono ?_)
      rintro e w1 ⟨rfl, hb1⟩
      replace KK := KK.call hb1
      clear hb1
      go_wp2_with fail
      (with_reducible refine (CK.out _ KK).mono ?_)
      rintro e w1 ⟨rfl, hb1⟩
      replace KK := KK.call hb1
      clear hb1
      go_wp2_with fail
      (with_reducible refine (NC.out _).mono ?_)
      rintro e w' ⟨rfl, rfl⟩
      go_wp2_with fail
      (with_reducible refine (RC.out _ KK).mono ?_)
      rintro e w1 ⟨rfl, hb1⟩
      replace KK := KK.call hb1
      clear hb1
      go_wp2_with fail
      (with_reducible refine (NG.out _).mono ?_)
      rintro e w' ⟨rfl, rfl⟩
      go_wp2_with fail
      go_ret
      exact ⟨ret_bool (by simp), KK⟩

end Go.Proofs.Ytfopcmiphklcdaa
