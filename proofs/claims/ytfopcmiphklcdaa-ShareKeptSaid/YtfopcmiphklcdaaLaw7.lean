/- The walk of ShareSheds. -/
import Derived.Test.YtfopcmiphklcdaaShed
import Derived.Test.YtfopcmiphklcdaaRShed
import Derived.BigQuiet
namespace Go.Proofs.Ytfopcmiphklcdaa
open Go.RowKit

/-- A row of bools, wherever it lies. -/
def IRb (W : World) (A : Option Addr) (n b o : Nat) (f : Nat → Bool) : Prop := 0 < n → A = some ⟨b, o, none⟩ ∧ b < W.heap.size ∧ ∀ i, i < n → W.cell? ⟨b, o + i, none⟩ = some (.bool (f i))
theorem IRb.mono {w W : World} {A : Option Addr} {n b o : Nat} {f : Nat → Bool} (h : IRb w A n b o f) (hb : Below w.heap.size w W) : IRb W A n b o f := fun hk => by
  obtain ⟨h1, h2, h3⟩ := h hk
  exact ⟨h1, Nat.lt_of_lt_of_le h2 hb.size, fun i hi => (hb.cell (p := ⟨b, o + i, none⟩) h2).trans (h3 i hi)⟩
theorem BRow.ir {W : World} {lo g k : Nat} {o : Nat → Bool} (h : BRow W lo g k o) : IRb W (some ⟨g, 0, none⟩) k g 0 o := fun hk => by
  obtain ⟨_, h3, h4⟩ := h hk
  exact ⟨rfl, h3, fun i hi => by rw [Nat.zero_add]; exact (h4 i hi).1⟩
def eqBb (f g : Nat → Bool) : Nat → Bool
  | 0 => true
  | k + 1 => eqBb f g k && (f k == g k)
theorem eqBb_iff {f g : Nat → Bool} : ∀ {k : Nat}, eqBb f g k = true ↔ ∀ i, i < k → f i = g i
  | 0 => by simp [eqBb]
  | k + 1 => by
    rw [eqBb, Bool.and_eq_true, eqBb_iff]
    constructor
    · rintro ⟨h, h1⟩ i hi
      by_cases e : i = k
      · subst e; simpa using h1
      · exact h i (by omega)
    · intro h
      exact ⟨fun i hi => h i (by omega), by simpa using h k (by omega)⟩
theorem eqBb_no {f g : Nat → Bool} {k i : Nat} (hi : i < k) (h : f i ≠ g i) : eqBb f g k = false := by
  cases e : eqBb f g k with
  | false => rfl
  | true => exact absurd (eqBb_iff.1 e i hi) h
set_option maxHeartbeats 2000000 in
theorem Bools_any (A B : Option Addr) (n m ca cb ba oa bb ob : Nat) (f g : Nat → Bool) (hn63 : n ≤ 9223372036854775807) (w : World) (hA : IRb w A n ba oa f) (hB : IRb w B m bb ob g) : Calls Try.prog 26 #[.slice A n ca, .slice B m cb] w fun e w' => e = .returned (.bool (decide (n = m) && eqBb f g n)) ∧ Below w.heap.size w w' := by
  by_cases hnm : n = m
  · subst hnm
    have e1 : ((n : Int) != (n : Int)) = false := by simp
    have HA := Lib.hid hA
    have HB := Lib.hid hB
    have NE := Lib.hid (fun i hi h => @eqBb_no f g n i hi h)
    obtain ⟨res, hres⟩ : ∃ res, eqBb f g n = res := ⟨_, rfl⟩
    rw [hres] at NE
    rw [show (decide (n = n) && eqBb f g n) = res by rw [hres]; simp]
    replace hres := Lib.hid hres
    clear hA hB
    have KK := Kp.base w
    go_enter Try.func26, Try.ntmps26
    go_wp2_with fail
    go_loopw [13] (fun i wr => ∃ j : Nat, i = .int .i64 (j : Int) ∧ j ≤ n ∧ eqBb f g j = true ∧ Kp w wr []) (fun i _ => n - (intOf i).toNat)
    case atStart => exact ⟨0, rfl, Nat.zero_le _, rfl, KK⟩
    case round =>
      clear KK
      obtain ⟨j, rfl, hle, hall, KK⟩ := hrel
      replace hall := Lib.hid hall
      by_cases hlt : j < n
      · have g1 : decide ((j : Int) < (n : Int)) = true := decide_eq_true (by omega)
        have g2 : decide (j < n) = true := decide_eq_true hlt
        obtain ⟨eA, _, cA⟩ := (HA.out.mono KK) (by omega)
        obtain ⟨eB, _, cB⟩ := (HB.out.mono KK) (by omega)
        replace cA := cA j hlt
        replace cB := cB j hlt
        subst eA eB
        have NJ := Lib.hid (NE.out j hlt)
        have hn : eqBb f g (j + 1) = (eqBb f g j && (f j == g j)) := rfl
        rw [hall.out] at hn
        obtain ⟨x, hx⟩ : ∃ x, f j = x := ⟨_, rfl⟩
        obtain ⟨y, hy⟩ : ∃ y, g j = y := ⟨_, rfl⟩
        rw [hx] at cA hn NJ
        rw [hy] at cB hn NJ
        clear hx hy
        by_cases hxy : x = y
        · subst hxy
          have hn := Lib.hid (show eqBb f g (j + 1) = true by rw [hn]; simp)
          have q1 : (x != x) = false := by simp
          go_wp2_with fail
          go_quiet (fail)
          have KK := KK.drewN nq
          generalize _root_.Go.World.drewN _ nq = wg at KK ⊢
          go_wp2_with fail
          exact ⟨⟨j + 1, by go_num, by omega, hn.out, KK⟩, by simp [intOf]; omega⟩
        · have NK := Lib.hid (NJ.out hxy)
          clear hn NJ
          obtain rfl : y = !x := by cases x <;> cases y <;> simp at hxy ⊢
          clear hxy
          cases x
          all_goals simp only [Bool.not_true, Bool.not_false] at cB
          all_goals
            go_wp2_with fail
            go_quiet (fail)
            have KK := KK.drewN nq
            generalize _root_.Go.World.drewN _ nq = wg at KK ⊢
            go_wp2_with fail
            go_ret
            exact ⟨ret_bool NK.out.symm, KK⟩
      · have g1 : decide ((j : Int) < (n : Int)) = false := decide_eq_false (by omega)
        have g2 : decide (j < n) = false := decide_eq_false hlt
        have e0 : j = n := by omega
        have hr := Lib.hid (show res = true by rw [← hres.out, ← e0]; exact hall.out)
        clear e0
        go_wp2_with fail
        go_ret
        exact ⟨ret_bool hr.out.symm, KK⟩
  · have e1 : ((n : Int) != (m : Int)) = true := by simp; omega
    have e2 : decide ((n : Int) = (m : Int)) = false := decide_eq_false (by omega)
    have e3 : (n != m) = true := by simpa using hnm
    rw [show (decide (n = m) && eqBb f g n) = false by simp [hnm]]
    clear hA hB hnm
    go_enter Try.func26, Try.ntmps26
    go_wp2_with fail
    go_ret
    exact ⟨rfl, Below.refl _ _⟩


theorem eqBb_refl (f : Nat → Bool) (k : Nat) : eqBb f f k = true := eqBb_iff.2 (fun _ _ => rfl)
theorem Shed_bad (total : Int) (A : Option Addr) (k cl bl ol : Nat) (L : Nat → Dr) (h : giv total k L ≠ 0) (w : World) (hR : Row w A k bl ol L) : Calls Try.prog 24 #[.int .i64 total, .slice A k cl] w fun e w' => e = .returned (.tuple #[.slice none 0 0, errV (giv total k L)]) ∧ Below w.heap.size w w' := by
  have CK := given_any total A k cl bl ol L w hR
  obtain ⟨cd, hcd⟩ : ∃ cd, giv total k L = cd := ⟨_, rfl⟩
  rw [hcd] at CK h ⊢
  rw [errV_pos h] at CK ⊢
  have CK := Lib.hid CK
  clear hcd h hR
  go_enter Try.func24, Try.ntmps24
  go_wp2_with fail
  (with_reducible refine CK.out.mono ?_)
  rintro e w1 ⟨rfl, hb1⟩
  go_wp2_with fail
  refine bodyPost_ret (v := .tuple #[.slice none 0 0, .iface 66 (.int .i64 cd)]) ?_ rfl ⟨rfl, hb1⟩
  simp [results, Try.results24, go_sem]
theorem rShed_bad (total : Int) (A : Option Addr) (k cl bl ol : Nat) (L : Nat → Dr) (h : giv total k L ≠ 0) (w : World) (hR : Row w A k bl ol L) : Calls Try.prog 25 #[.int .i64 total, .slice A k cl] w fun e w' => e = .returned (.tuple #[.slice none 0 0, .int .i64 (giv total k L)]) ∧ Below w.heap.size w w' := by
  have CK := rFormal_bad total A k cl bl ol L h w hR
  obtain ⟨cd, hcd⟩ : ∃ cd, giv total k L = cd := ⟨_, rfl⟩
  rw [hcd] at CK h ⊢
  have CK := Lib.hid CK
  have q1 : (cd != 0) = true := by simpa using h
  have q2 : decide (cd = 0) = false := decide_eq_false h
  clear hcd h hR
  go_enter Try.func25, Try.ntmps25
  go_wp2_with fail
  (with_reducible refine CK.out.mono ?_)
  rintro e w1 ⟨rfl, hb1⟩
  go_wp2_with fail
  refine bodyPost_ret (v := .tuple #[.slice none 0 0, .int .i64 cd]) ?_ rfl ⟨rfl, hb1⟩
  simp [results, Try.results25, go_sem]

set_option maxRecDepth 20000 in
set_option maxHeartbeats 4000000 in
theorem sheds_any (total : Int) (A : Option Addr) (k cl bl ol : Nat) (L : Nat → Dr) (w : World) (hR : Row w A k bl ol L) : Calls Try.prog 9 #[.int .i64 total, .slice A k cl] w fun e w' => e = .returned (.bool true) ∧ Below w.heap.size w w' := by
  by_cases hk : 40 < k
  · have q1 : decide ((40 : Int) < (k : Int)) = true := decide_eq_true (by omega)
    have q2 : decide (40 < k) = true := decide_eq_true hk
    clear hR
    have KK := Kp.base w
    go_enter Try.func9, Try.ntmps9
    go_wp2_with fail
    (with_reducible refine (awake_any _).mono ?_)
    rintro e w1 ⟨rfl, hb1⟩
    replace KK := KK.call hb1
    clear hb1
    go_wp2_with fail
    (with_reducible refine (awake_any _).mono ?_)
    rintro e w1 ⟨rfl, hb1⟩
    replace KK := KK.call hb1
    clear hb1
    go_wp2_with fail
    go_ret
    exact ⟨ret_bool (by simp), KK⟩
  · have q1 : decide ((40 : Int) < (k : Int)) = false := decide_eq_false (by omega)
    have q2 : decide (40 < k) = false := decide_eq_false hk
    by_cases hG : giv total k L = 0
    · have SY := Lib.hid (fun W (K : Kp w W []) => Shed_yes total A k cl bl ol L hG W (hR.mono K.below))
      have RY := Lib.hid (fun W (K : Kp w W []) => rShed_yes total A k cl bl ol L hG W (hR.mono K.below))
      have N0 : Hid (∀ w, Calls Try.prog 14 #[.nilIface] w fun e w' => e = .returned (.int .i64 0) ∧ w = w') := Lib.hid (num_any 0)
      clear hG hR
      have KK := Kp.base w
      go_enter Try.func9, Try.ntmps9
      go_wp2_with fail
      (with_reducible refine (awake_any _).mono ?_)
      rintro e w1 ⟨rfl, hb1⟩
      replace KK := KK.call hb1
      clear hb1
      go_wp2_with fail
      (with_reducible refine (SY.out _ KK).mono ?_)
      rintro e w1 ⟨⟨g, m, rfl, ⟨h1, h2⟩, OA⟩, hb1⟩
      replace KK := KK.call hb1
      clear hb1
      replace h1 := Lib.hid h1
      replace h2 := Lib.hid h2
      go_wp2_with fail
      (with_reducible refine (RY.out _ KK).mono ?_)
      rintro e w2 ⟨⟨g2, m2, rfl, ⟨h3, h4⟩, OB⟩, hb2⟩
      replace KK := KK.call hb2
      replace OA := OA.call hb2
      clear hb2
      obtain rfl := shed_same h1.out h2.out h3 h4
      have IN := Bools_any (some ⟨g, 0, none⟩) (some ⟨g2, 0, none⟩) k k k k g 0 g2 0 _ _ (by omega) _ OA.ir OB.ir
      rw [eqBb_refl] at IN
      replace IN := Lib.hid IN
      clear OA OB h1 h2 h3 h4
      go_wp2_with fail
      (with_reducible refine (IN.out).mono ?_)
      rintro e w1 ⟨rfl, hb1⟩
      replace KK := KK.call hb1
      clear hb1
      go_wp2_with fail
      (with_reducible refine (N0.out _).mono ?_)
      rintro e w' ⟨rfl, rfl⟩
      go_wp2_with fail
      go_ret
      exact ⟨ret_bool (by simp), KK⟩
    · have AB := Lib.hid (fun W (K : Kp w W []) => Shed_bad total A k cl bl ol L hG W (hR.mono K.below))
      have RB := Lib.hid (fun W (K : Kp w W []) => rShed_bad total A k cl bl ol L hG W (hR.mono K.below))
      obtain ⟨cd, hcd⟩ : ∃ cd, giv total k L = cd := ⟨_, rfl⟩
      rw [hcd, errV_pos (by rw [← hcd]; exact hG)] at AB
      rw [hcd] at RB hG
      have NC := num_any cd
      rw [errV_pos hG] at NC
      replace NC := Lib.hid NC
      replace AB := Lib.hid AB.out
      have qc : (cd == cd) = true := by simp
      have IN : Hid (∀ w, Calls Try.prog 26 #[.slice none 0 0, .slice none 0 0] w fun e w' => e = .returned (.bool true) ∧ Below w.heap.size w w') := Lib.hid (fun w => Bools_any none none 0 0 0 0 0 0 0 0 (fun _ => true) (fun _ => true) (by omega) w (fun h => absurd h (by omega)) (fun h => absurd h (by omega)))
      clear hcd hG hR
      have KK := Kp.base w
      go_enter Try.func9, Try.ntmps9
      go_wp2_with fail
      (with_reducible refine (awake_any _).mono ?_)
      rintro e w1 ⟨rfl, hb1⟩
      replace KK := KK.call hb1
      clear hb1
      go_wp2_with fail
      (with_reducible refine (AB.out _ KK).mono ?_)
      rintro e w1 ⟨rfl, hb1⟩
      replace KK := KK.call hb1
      clear hb1
      go_wp2_with fail
      (with_reducible refine (RB.out _ KK).mono ?_)
      rintro e w1 ⟨rfl, hb1⟩
      replace KK := KK.call hb1
      clear hb1
      go_wp2_with fail
      (with_reducible refine (IN.out _).mono ?_)
      rintro e w1 ⟨rfl, hb1⟩
      replace KK := KK.call hb1
      clear hb1
      go_wp2_with fail
      (with_reducible refine (NC.out _).mono ?_)
      rintro e w' ⟨rfl, rfl⟩
      go_wp2_with fail
      go_ret
      exact ⟨ret_bool (by simp), KK⟩

end Go.Proofs.Ytfopcmiphklcdaa
