/- The walk of ShareFair. -/
import Derived.Test.YtfopcmiphklcdaaLaw2
namespace Go.Proofs.Ytfopcmiphklcdaa
open Go.RowKit

def FairP (k : Nat) (L : Nat → Dr) (o : Nat → Int) : Prop := ∀ i, i < k → o i < capD (L i) → ∀ m, m < k → m ≠ i → (L m).a < o m → o m * (L i).d < (o i + 1) * (L m).d ∨ (o m * (L i).d = (o i + 1) * (L m).d ∧ m < i)
theorem fair_step {k : Nat} {L : Nat → Dr} {o : Nat → Int} (hok : okL k L) (h : FairP k L o) : FairP k L (stepF k L o) := by
  have hd : ∀ j, j < k → 0 < (L j).d := fun j hj => by have := (hok j hj).2.2.1; omega
  rcases pick_spec (L := L) (o := o) (k := k) hd with ⟨e, _⟩ | ⟨n, e, hnk, hcn, hall⟩
  · have s : stepF k L o = o := by
      unfold stepF
      rw [if_pos (by omega)]
    rw [s]
    exact h
  · have s : stepF k L o = upd o n (o n + 1) := by
      unfold stepF
      rw [if_neg (by omega), e, Int.toNat_natCast]
    rw [s]
    intro i hi hci m hm hmi hma
    by_cases e1 : m = n
    · subst e1
      have ei : upd o m (o m + 1) i = o i := by unfold upd; rw [if_neg (by omega)]
      have em : upd o m (o m + 1) m = o m + 1 := by unfold upd; rw [if_pos rfl]
      rw [ei] at hci ⊢
      rw [em]
      rcases hall i hi hci with q | ⟨q, q2⟩
      · exact .inl q
      · exact .inr ⟨q, by omega⟩
    · have em : upd o n (o n + 1) m = o m := by unfold upd; rw [if_neg e1]
      rw [em] at hma ⊢
      by_cases e2 : i = n
      · subst e2
        have ei : upd o i (o i + 1) i = o i + 1 := by unfold upd; rw [if_pos rfl]
        rw [ei] at hci ⊢
        have dm := hd m hm
        have q := h i hi (by omega) m hm hmi hma
        have q2 : (o i + 1 + 1) * (L m).d = (o i + 1) * (L m).d + (L m).d := by rw [Int.add_mul (o i + 1) 1, Int.one_mul]
        left
        rw [q2]
        rcases q with q | ⟨q, _⟩
        · omega
        · omega
      · have ei : upd o n (o n + 1) i = o i := by unfold upd; rw [if_neg e2]
        rw [ei] at hci ⊢
        exact h i hi hci m hm hmi hma
theorem fair_gv {k : Nat} {L : Nat → Dr} (hok : okL k L) : ∀ n, FairP k L (gv k L (fun i => (L i).a) n)
  | 0 => fun i hi _ m hm _ hma => absurd hma (by simp [gv])
  | n + 1 => fair_step hok (fair_gv hok n)

set_option maxRecDepth 20000 in
set_option maxHeartbeats 4000000 in
theorem fair_any (total : Int) (A : Option Addr) (k cl bl ol : Nat) (L : Nat → Dr) (w : World) (hR : Row w A k bl ol L) : Calls Try.prog 5 #[.int .i64 total, .slice A k cl] w fun e w' => e = .returned (.bool true) ∧ Below w.heap.size w w' := by
  by_cases hk : 40 < k
  · have q1 : decide ((40 : Int) < (k : Int)) = true := decide_eq_true (by omega)
    have q2 : decide (40 < k) = true := decide_eq_true hk
    clear hR
    have KK := Kp.base w
    go_enter Try.func5, Try.ntmps5
    go_wp2_with fail
    (with_reducible refine (awake_any _).mono ?_)
    rintro e w1 ⟨rfl, hb1⟩
    replace KK := KK.call hb1
    clear hb1
    go_wp2_with fail
    (with_reducible refine (awake_any _).mono ?_)
    rintro e w1 ⟨rfl, hb1⟩
    replace KK := KK.call hb1
    clear hb1
    go_wp2_with fail
    go_ret
    exact ⟨ret_bool (by simp), KK⟩
  · have q1 : decide ((40 : Int) < (k : Int)) = false := decide_eq_false (by omega)
    have q2 : decide (40 < k) = false := decide_eq_false hk
    by_cases hG : giv total k L = 0
    · by_cases hs : sm (fun i => (L i).a) k ≤ total
      · obtain ⟨⟨h8, hok⟩, ht⟩ := giv_zero.1 hG
        have DY := Lib.hid (fun W (K : Kp w W []) => Divide_yes total A k cl bl ol L h8 hok ht hs W (hR.mono K.below))
        have FP : FairP k L (divF total k L) := fair_gv hok _
        have DB := Lib.hid (fun i hi => @div_bd total k L hok i hi)
        have WT := Lib.hid (fun i (hi : i < k) => (hok i hi).2.2)
        generalize divF total k L = df at *
        have HR := Lib.hid hR
        replace FP := Lib.hid FP
        clear hG hok hR hs
        have KK := Kp.base w
        go_enter Try.func5, Try.ntmps5
        go_wp2_with fail
        (with_reducible refine (awake_any _).mono ?_)
        rintro e w1 ⟨rfl, hb1⟩
        replace KK := KK.call hb1
        clear hb1
        go_wp2_with fail
        (with_reducible refine (DY.out _ KK).mono ?_)
        rintro e w1 ⟨⟨O, g, c, rfl, OR⟩, hb1⟩
        replace KK := KK.call hb1
        clear hb1
        go_wp2_with fail
        clear DY
        go_loopw [39] (fun i wr => ∃ j : Nat, i = .int .i64 (j : Int) ∧ j ≤ k ∧ (∃ lo, ORow wr lo O g k df) ∧ Kp w wr []) (fun i _ => k - (intOf i).toNat)
        case atStart => exact ⟨0, rfl, Nat.zero_le _, ⟨_, OR⟩, KK⟩
        case round =>
          clear KK OR
          obtain ⟨j, rfl, hle, ⟨lo, OR⟩, KK⟩ := hrel
          by_cases hlt : j < k
          · have g1 : decide ((j : Int) < (k : Int)) = true := decide_eq_true (by omega)
            have g2 : decide (j < k) = true := decide_eq_true hlt
            obtain ⟨rfl, c0, c1, c2, c3⟩ := HR.out.at KK.below hlt
            obtain rfl : O = some ⟨g, 0, none⟩ := (OR (by omega)).1
            have cA := (OR.at hlt).1
            have bj := (DB.out j hlt).2
            have RC := rCap_any (L j)
            have FJ := FP.out j hlt
            have dj := WT.out j hlt
            obtain ⟨v, hv⟩ : ∃ v, df j = v := ⟨_, rfl⟩
            obtain ⟨cp, hcp⟩ : ∃ cp, capD (L j) = cp := ⟨_, rfl⟩
            rw [hv, hcp] at FJ
            rw [hv] at cA bj
            rw [hcp] at RC
            replace RC := Lib.hid RC
            clear hv hcp
            by_cases hge : cp ≤ v
            · have q3 : decide (cp ≤ v) = true := decide_eq_true hge
              clear FJ
              go_wp2_with fail
              (with_reducible refine (RC.out _).mono ?_)
              rintro e w1 ⟨rfl, hb1⟩
              have K1 := KK.call hb1
              have O1 := OR.call hb1
              clear c0 c1 c2 c3 cA
              go_wp2_with fail
              exact ⟨⟨j + 1, by go_num, by omega, ⟨lo, O1⟩, K1⟩, by simp [intOf]; omega⟩
            · have q3 : decide (cp ≤ v) = false := decide_eq_false hge
              have FJ := Lib.hid (FJ (by omega))
              have v1 : IntKind.i64.wrap (v + 1) = v + 1 := IntWalk.i64_in _ (by omega)
              go_wp2_with fail
              (with_reducible refine (RC.out _).mono ?_)
              rintro e w1 ⟨rfl, hb1⟩
              have K1 := KK.call hb1
              have O1 := OR.call hb1
              clear c0 c1 c2 c3 cA KK OR hb1
              go_wp2_with fail
              go_loopw [53] (fun i wr => ∃ m : Nat, i = .int .i64 (m : Int) ∧ m ≤ k ∧ (∃ lo, ORow wr lo (some ⟨g, 0, none⟩) g k df) ∧ Kp w wr []) (fun i _ => k - (intOf i).toNat)
              case atStart => exact ⟨0, rfl, Nat.zero_le _, ⟨_, O1⟩, K1⟩
              case round =>
                clear K1 O1
                obtain ⟨m, rfl, hle2, ⟨lo2, OR⟩, KK⟩ := hrel
                by_cases hmk : m < k
                · have g3 : decide ((m : Int) < (k : Int)) = true := decide_eq_true (by omega)
                  have g4 : decide (m < k) = true := decide_eq_true hmk
                  have cM := (OR.at hmk).1
                  by_cases hmj : m = j
                  · subst hmj
                    have q4 : ((m : Int) == (m : Int)) = true := by simp
                    go_wp2_with fail
                    exact ⟨⟨m + 1, by go_num, by omega, ⟨lo2, OR⟩, KK⟩, by simp [intOf]; omega⟩
                  · have q4 : ((m : Int) == (j : Int)) = false := by simp; omega
                    have q5 : decide ((m : Int) = (j : Int)) = false := decide_eq_false (by omega)
                    have q6 : (m == j) = false := by simpa using hmj
                    obtain ⟨_, _, _, _, e3⟩ := HR.out.at KK.below hlt
                    obtain ⟨_, d0, _, _, d3⟩ := HR.out.at KK.below hmk
                    have bm := (DB.out m hmk).2
                    have FM := FJ.out m hmk hmj
                    have dm := WT.out m hmk
                    obtain ⟨u, hu⟩ : ∃ u, df m = u := ⟨_, rfl⟩
                    rw [hu] at bm FM cM
                    clear hu
                    obtain ⟨am, ham⟩ : ∃ am, (L m).a = am := ⟨_, rfl⟩
                    obtain ⟨wm, hwm⟩ : ∃ wm, (L m).d = wm := ⟨_, rfl⟩
                    obtain ⟨wj, hwj⟩ : ∃ wj, (L j).d = wj := ⟨_, rfl⟩
                    rw [ham] at d0 FM
                    rw [hwm] at d3 FM dm
                    rw [hwj] at e3 FM dj
                    clear ham hwm hwj
                    by_cases hle3 : u ≤ am
                    · have q7 : decide (u ≤ am) = true := decide_eq_true hle3
                      clear FM
                      go_wp2_with fail
                      exact ⟨⟨m + 1, by go_num, by omega, ⟨lo2, OR⟩, KK⟩, by simp [intOf]; omega⟩
                    · have q7 : decide (u ≤ am) = false := decide_eq_false hle3
                      have FM := FM (by omega)
                      have m1 := pick_bd bj dm
                      have m2 := mul_bd bm.1 bm.2 dj.1 dj.2
                      have v2 : IntKind.i64.wrap (u * wj) = u * wj := IntWalk.i64_in _ (by omega)
                      have v3 : IntKind.i64.wrap ((v + 1) * wm) = (v + 1) * wm := IntWalk.i64_in _ (by omega)
                      have q8 : decide ((v + 1) * wm < u * wj) = false := decide_eq_false (by omega)
                      rcases FM with hF | ⟨hF, hF2⟩
                      · have q9 : (u * wj == (v + 1) * wm) = false := by simp; omega
                        have q10 : decide (u * wj = (v + 1) * wm) = false := decide_eq_false (by omega)
                        clear hF m1 m2 bm dm
                        go_wp2_with fail
                        go_quiet (fail)
                        have KK := KK.drewN nq
                        have OR := OR.call (below_drewN (Below.refl _ _) nq)
                        generalize _root_.Go.World.drewN _ nq = wg at KK OR ⊢
                        go_wp2_with fail
                        exact ⟨⟨m + 1, by go_num, by omega, ⟨lo2, OR⟩, KK⟩, by simp [intOf]; omega⟩
                      · have q9 : (u * wj == (v + 1) * wm) = true := by simpa using hF
                        have q10 : decide (u * wj = (v + 1) * wm) = true := decide_eq_true hF
                        have q11 : decide ((j : Int) < (m : Int)) = false := decide_eq_false (by omega)
                        have q12 : decide (j < m) = false := decide_eq_false (by omega)
                        clear hF m1 m2 bm dm
                        go_wp2_with fail
                        go_quiet (fail)
                        have KK := KK.drewN nq
                        have OR := OR.call (below_drewN (Below.refl _ _) nq)
                        generalize _root_.Go.World.drewN _ nq = wg at KK OR ⊢
                        go_wp2_with fail
                        exact ⟨⟨m + 1, by go_num, by omega, ⟨lo2, OR⟩, KK⟩, by simp [intOf]; omega⟩
                · have g3 : decide ((m : Int) < (k : Int)) = false := decide_eq_false (by omega)
                  have g4 : decide (m < k) = false := decide_eq_false hmk
                  go_wp2_with fail
                  exact ⟨⟨j + 1, by go_num, by omega, ⟨lo2, OR⟩, KK⟩, by simp [intOf]; omega⟩
          · have g1 : decide ((j : Int) < (k : Int)) = false := decide_eq_false (by omega)
            have g2 : decide (j < k) = false := decide_eq_false hlt
            go_wp2_with fail
            go_ret
            exact ⟨rfl, KK⟩
      · have DO := Lib.hid (fun W (K : Kp w W []) => Divide_over total A k cl bl ol L hG (by omega) W (hR.mono K.below))
        clear hG hs hR
        have KK := Kp.base w
        go_enter Try.func5, Try.ntmps5
        go_wp2_with fail
        (with_reducible refine (awake_any _).mono ?_)
        rintro e w1 ⟨rfl, hb1⟩
        replace KK := KK.call hb1
        clear hb1
        go_wp2_with fail
        (with_reducible refine (DO.out _ KK).mono ?_)
        rintro e w1 ⟨rfl, hb1⟩
        replace KK := KK.call hb1
        clear hb1
        go_wp2_with fail
        go_ret
        exact ⟨ret_bool (by simp), KK⟩
    · have DB := Lib.hid (fun W (K : Kp w W []) => Divide_bad total A k cl bl ol L hG W (hR.mono K.below))
      rw [errV_pos hG] at DB
      generalize giv total k L = G at *
      clear hG hR
      have KK := Kp.base w
      go_enter Try.func5, Try.ntmps5
      go_wp2_with fail
      (with_reducible refine (awake_any _).mono ?_)
      rintro e w1 ⟨rfl, hb1⟩
      replace KK := KK.call hb1
      clear hb1
      go_wp2_with fail
      (with_reducible refine (DB.out _ KK).mono ?_)
      rintro e w1 ⟨rfl, hb1⟩
      replace KK := KK.call hb1
      clear hb1
      go_wp2_with fail
      go_ret
      exact ⟨ret_bool (by simp), KK⟩

end Go.Proofs.Ytfopcmiphklcdaa
