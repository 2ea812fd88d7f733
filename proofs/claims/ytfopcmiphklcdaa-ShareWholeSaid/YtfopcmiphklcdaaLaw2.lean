/- The walk of ShareWhole. -/
import Derived.Test.YtfopcmiphklcdaaAwake
namespace Go.Proofs.Ytfopcmiphklcdaa
open Go.RowKit

theorem gv_sum (k : Nat) (L : Nat → Dr) (o : Nat → Int) : ∀ n : Nat, sm (gv k L o n) k = sm o k + (n : Int) ∨ (pickF L (gv k L o n) k = -1 ∧ sm (gv k L o n) k < sm o k + (n : Int))
  | 0 => .inl (by simp [gv])
  | n + 1 => by
    rcases @step_sum k L (gv k L o n) with ⟨e, es⟩ | ⟨p, _, _, _, es⟩
    · right
      have e2 : gv k L o (n + 1) = gv k L o n := es
      rw [e2]
      refine ⟨e, ?_⟩
      rcases gv_sum k L o n with h | h
      · push_cast; omega
      · push_cast; omega
    · rcases gv_sum k L o n with h | ⟨h, _⟩
      · left
        show sm (stepF k L (gv k L o n)) k = _
        rw [es, h]
        push_cast
        omega
      · omega
theorem whole {total : Int} {k : Nat} {L : Nat → Dr} (hok : okL k L) (hs : sm (fun i => (L i).a) k ≤ total) : sm (divF total k L) k = total ∨ (sm (divF total k L) k < total ∧ ∀ i, i < k → divF total k L i = capD (L i)) := by
  have hb := gv_bd hok (o := fun i => (L i).a) (fun i hi => ⟨Int.le_refl _, (cap_bd (hok i hi)).1⟩) (total - sm (fun i => (L i).a) k).toNat
  rcases gv_sum k L (fun i => (L i).a) (total - sm (fun i => (L i).a) k).toNat with h | ⟨h, h2⟩
  · left
    unfold divF
    rw [h]
    omega
  · right
    unfold divF
    refine ⟨by omega, fun i hi => ?_⟩
    rcases pick_spec (L := L) (o := gv k L (fun i => (L i).a) (total - sm (fun i => (L i).a) k).toNat) (k := k) (fun j hj => by have := (hok j hj).2.2.1; omega) with ⟨_, hn⟩ | ⟨n, e, _⟩
    · have := hn i hi
      have := hb i hi
      omega
    · omega
theorem div_bd {total : Int} {k : Nat} {L : Nat → Dr} (hok : okL k L) (i : Nat) (hi : i < k) : ((L i).a ≤ divF total k L i ∧ divF total k L i ≤ capD (L i)) ∧ 0 ≤ divF total k L i ∧ divF total k L i ≤ 1073741824 :=
  ⟨gv_bd hok (o := fun i => (L i).a) (fun i hi => ⟨Int.le_refl _, (cap_bd (hok i hi)).1⟩) _ i hi, gv_in hok (o := fun i => (L i).a) (fun i hi => ⟨Int.le_refl _, (cap_bd (hok i hi)).1⟩) _ i hi⟩

set_option maxHeartbeats 4000000 in
theorem whole_any (total : Int) (A : Option Addr) (k cl bl ol : Nat) (L : Nat → Dr) (w : World) (hR : Row w A k bl ol L) : Calls Try.prog 4 #[.int .i64 total, .slice A k cl] w fun e w' => e = .returned (.bool true) ∧ Below w.heap.size w w' := by
  by_cases hk : 40 < k
  · have q1 : decide ((40 : Int) < (k : Int)) = true := decide_eq_true (by omega)
    have q2 : decide (40 < k) = true := decide_eq_true hk
    clear hR
    have KK := Kp.base w
    go_enter Try.func4, Try.ntmps4
    go_wp2_with fail
    (with_reducible refine (awake_any _).mono ?_)
    rintro e w1 ⟨rfl, hb1⟩
    replace KK := KK.call hb1
    clear hb1
    go_wp2_with fail
    (with_reducible refine (awake_any _).mono ?_)
    rintro e w1 ⟨rfl, hb1⟩
    replace KK := KK.call hb1
    clear hb1
    go_wp2_with fail
    go_ret
    exact ⟨ret_bool (by simp), KK⟩
  · have q1 : decide ((40 : Int) < (k : Int)) = false := decide_eq_false (by omega)
    have q2 : decide (40 < k) = false := decide_eq_false hk
    by_cases hG : giv total k L = 0
    · by_cases hs : sm (fun i => (L i).a) k ≤ total
      · obtain ⟨⟨h8, hok⟩, ht⟩ := giv_zero.1 hG
        have DY := Lib.hid (fun W (K : Kp w W []) => Divide_yes total A k cl bl ol L h8 hok ht hs W (hR.mono K.below))
        have WH := whole hok hs
        have DB := Lib.hid (fun i hi => @div_bd total k L hok i hi)
        have SB := Lib.hid (fun j (hj : j ≤ k) => @sm_bd (divF total k L) 1073741824 j (fun i hi => (div_bd hok i (by omega)).2))
        have EQ : Hid (eqB (divF total k L) (fun i => capD (L i)) k = true ↔ ∀ i, i < k → divF total k L i = capD (L i)) := Lib.hid eqB_iff
        generalize divF total k L = df at *
        have HR := Lib.hid hR
        replace WH := Lib.hid WH
        clear hG hok hR hs
        have KK := Kp.base w
        go_enter Try.func4, Try.ntmps4
        go_wp2_with fail
        (with_reducible refine (awake_any _).mono ?_)
        rintro e w1 ⟨rfl, hb1⟩
        replace KK := KK.call hb1
        clear hb1
        go_wp2_with fail
        (with_reducible refine (DY.out _ KK).mono ?_)
        rintro e w1 ⟨⟨O, g, c, rfl, OR⟩, hb1⟩
        replace KK := KK.call hb1
        clear hb1
        go_wp2_with fail
        clear DY
        go_loopw [7, 8, 38] (fun s f i wr => ∃ j : Nat, i = .int .i64 (j : Int) ∧ j ≤ k ∧ s = .int .i64 (sm df j) ∧ f = .bool (eqB df (fun i => capD (L i)) j) ∧ (∃ lo, ORow wr lo O g k df) ∧ Kp w wr []) (fun _ _ i _ => k - (intOf i).toNat)
        case atStart => exact ⟨0, rfl, Nat.zero_le _, rfl, rfl, ⟨_, OR⟩, KK⟩
        case round =>
          clear KK OR
          obtain ⟨j, rfl, hle, rfl, rfl, ⟨lo, OR⟩, KK⟩ := hrel
          by_cases hlt : j < k
          · have g1 : decide ((j : Int) < (k : Int)) = true := decide_eq_true (by omega)
            have g2 : decide (j < k) = true := decide_eq_true hlt
            obtain ⟨rfl, c0, c1, c2, c3⟩ := HR.out.at KK.below hlt
            obtain rfl : O = some ⟨g, 0, none⟩ := (OR (by omega)).1
            have cA := (OR.at hlt).1
            have b1 := small (by omega) (SB.out j hle) (DB.out j hlt).2
            have b2 := (DB.out j hlt).1
            have hs : sm df (j + 1) = sm df j + df j := rfl
            have he : eqB df (fun i => capD (L i)) (j + 1) = (eqB df (fun i => capD (L i)) j && (df j == capD (L j))) := rfl
            have RC := rCap_any (L j)
            obtain ⟨s, hs1⟩ : ∃ s, sm df j = s := ⟨_, rfl⟩
            obtain ⟨v, hv⟩ : ∃ v, df j = v := ⟨_, rfl⟩
            obtain ⟨cp, hcp⟩ : ∃ cp, capD (L j) = cp := ⟨_, rfl⟩
            obtain ⟨x, hx⟩ : ∃ x, L j = x := ⟨_, rfl⟩
            rw [hs1, hv] at hs b1
            rw [hv, hcp] at he
            rw [hv] at cA
            rw [hcp, hx] at RC
            rw [hv, hcp, hx] at b2
            rw [hx] at c0 c1 c2 c3
            rw [hs1]
            replace RC := Lib.hid RC
            replace hs := Lib.hid hs
            have v1 : IntKind.i64.wrap (s + v) = s + v := IntWalk.i64_in _ (by omega)
            have q3 : decide (v < x.a) = false := decide_eq_false (by omega)
            have q4 : decide (cp < v) = false := decide_eq_false (by omega)
            replace hx := Lib.hid hx
            clear hs1 hv hcp b1 b2
            cases hf : eqB df (fun i => capD (L i)) j
            · rw [hf] at he
              rw [Bool.false_and] at he
              replace he := Lib.hid he
              clear hf
              go_wp2_with fail
              (with_reducible refine (RC.out _).mono ?_)
              rintro e w1 ⟨rfl, hb1⟩
              have K1 := KK.call hb1
              have O1 := OR.call hb1
              clear c0 c1 c2 c3 cA
              obtain ⟨_, c0, _, _, _⟩ := HR.out.at K1.below hlt
              rw [hx.out] at c0
              go_wp2_with fail
              exact ⟨⟨j + 1, by go_num, by omega, by rw [hs.out], by rw [he.out], ⟨lo, O1⟩, K1⟩, by simp [intOf]; omega⟩
            · rw [hf] at he
              rw [Bool.true_and] at he
              clear hf
              by_cases hvc : v = cp
              · subst hvc
                have q5 : (v == v) = true := by simp
                rw [q5] at he
                replace he := Lib.hid he
                go_wp2_with fail
                (with_reducible refine (RC.out _).mono ?_)
                rintro e w1 ⟨rfl, hb1⟩
                have K1 := KK.call hb1
                have O1 := OR.call hb1
                clear c0 c1 c2 c3 cA
                obtain ⟨_, c0, _, _, _⟩ := HR.out.at K1.below hlt
                rw [hx.out] at c0
                go_wp2_with fail
                exact ⟨⟨j + 1, by go_num, by omega, by rw [hs.out], by rw [he.out], ⟨lo, O1⟩, K1⟩, by simp [intOf]; omega⟩
              · have q5 : (v == cp) = false := by simpa using hvc
                have q6 : decide (v = cp) = false := decide_eq_false hvc
                rw [q5] at he
                replace he := Lib.hid he
                clear hvc
                go_wp2_with fail
                (with_reducible refine (RC.out _).mono ?_)
                rintro e w1 ⟨rfl, hb1⟩
                have K1 := KK.call hb1
                have O1 := OR.call hb1
                clear c0 c1 c2 c3 cA
                obtain ⟨_, c0, _, _, _⟩ := HR.out.at K1.below hlt
                rw [hx.out] at c0
                go_wp2_with fail
                exact ⟨⟨j + 1, by go_num, by omega, by rw [hs.out], by rw [he.out], ⟨lo, O1⟩, K1⟩, by simp [intOf]; omega⟩
          · have g1 : decide ((j : Int) < (k : Int)) = false := decide_eq_false (by omega)
            have g2 : decide (j < k) = false := decide_eq_false hlt
            have e0 : j = k := by omega
            subst e0
            have wh := WH.out
            have sb := SB.out j hle
            have eq := EQ.out
            obtain ⟨s, hs1⟩ : ∃ s, sm df j = s := ⟨_, rfl⟩
            rw [hs1] at wh ⊢
            rcases wh with rfl | ⟨h1, h2⟩
            · have q3 : (s == s) = true := by simp
              clear hs1
              go_wp2_with fail
              go_ret
              exact ⟨ret_bool (by simp), KK⟩
            · rw [eq.2 h2]
              have q3 : (s == total) = false := by simp; omega
              have q4 : decide (s < total) = true := decide_eq_true h1
              have q5 : decide (s = total) = false := decide_eq_false (by omega)
              clear hs1 h2 eq
              go_wp2_with fail
              go_ret
              exact ⟨ret_bool (by simp), KK⟩
      · have DO := Lib.hid (fun W (K : Kp w W []) => Divide_over total A k cl bl ol L hG (by omega) W (hR.mono K.below))
        clear hG hs hR
        have KK := Kp.base w
        go_enter Try.func4, Try.ntmps4
        go_wp2_with fail
        (with_reducible refine (awake_any _).mono ?_)
        rintro e w1 ⟨rfl, hb1⟩
        replace KK := KK.call hb1
        clear hb1
        go_wp2_with fail
        (with_reducible refine (DO.out _ KK).mono ?_)
        rintro e w1 ⟨rfl, hb1⟩
        replace KK := KK.call hb1
        clear hb1
        go_wp2_with fail
        go_ret
        exact ⟨ret_bool (by simp), KK⟩
    · have DB := Lib.hid (fun W (K : Kp w W []) => Divide_bad total A k cl bl ol L hG W (hR.mono K.below))
      rw [errV_pos hG] at DB
      generalize giv total k L = G at *
      clear hG hR
      have KK := Kp.base w
      go_enter Try.func4, Try.ntmps4
      go_wp2_with fail
      (with_reducible refine (awake_any _).mono ?_)
      rintro e w1 ⟨rfl, hb1⟩
      replace KK := KK.call hb1
      clear hb1
      go_wp2_with fail
      (with_reducible refine (DB.out _ KK).mono ?_)
      rintro e w1 ⟨rfl, hb1⟩
      replace KK := KK.call hb1
      clear hb1
      go_wp2_with fail
      go_ret
      exact ⟨ret_bool (by simp), KK⟩

end Go.Proofs.Ytfopcmiphklcdaa
