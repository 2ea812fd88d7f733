/- The walk of ShareHeats. -/
import Derived.Test.YtfopcmiphklcdaaChop
import Derived.BigGuard
import Derived.Deep.DeepCutAuto
namespace Go.Proofs.Ytfopcmiphklcdaa
open Go.RowKit

theorem Kp.putState {w W : World} {B t t2 : Nat} {cs : Array Value} {x y : Value} (h : Kp w W [(w.heap.size, t, cs), (B, t2, #[x, y])]) (hB : w.heap.size < B) (u v : Value) : Kp w ((W.setCell ⟨B, 0, none⟩ u).setCell ⟨B, 1, none⟩ v) [(w.heap.size, t, cs), (B, t2, #[u, v])] :=
  ⟨(h.1.far (p := ⟨B, 0, none⟩) (show w.heap.size ≠ B by omega) u).far (p := ⟨B, 1, none⟩) (show w.heap.size ≠ B by omega) v, (h.2.1.put 0 u).put 1 v, below_set (below_set h.2.2 (by omega) u) (by omega) v⟩
/-- An operation that is not wanted, by its guard's slot. -/
theorem skip_eq {P : Program} {ops : Array Oper} {Q : Exit → Act → World → Prop} {a : Act} {w : World} {rest : List Oper} {o : Oper} (j d : Nat) (b : Bool) (v : Value) (hg : o.guard = some (j, b)) (ho : (ops[j]?).bind (·.dst) = some d) (hv : a.tmps[d]? = some v) (hne : v = undef ∨ v = .bool (!b)) :
    wpList P ops Q (o :: rest) a w = wpList P ops Q rest (a.put o.dst undef) w := by
  have hw : Region.wanted o (yielded ops a.tmps) = false := by
    unfold Region.wanted yielded
    rw [hg]
    simp only [ho, Option.bind_some, hv]
    rcases hne with rfl | rfl
    · rfl
    · cases b <;> rfl
  rw [wpList]
  simp only [hw]
  rfl
/-- What a tick does, in order. -/
theorem tick {on off mo ri fa he v : Int} {ac : Bool} (h : chE on off mo ri fa he = 0) :
    (chA on off mo ri fa he v ac = true ∧ chH on off mo ri fa he v ac = he + ri ∧ he + ri ≤ mo ∧ off < v ∧ (ac = true ∨ on ≤ v)) ∨
    (chA on off mo ri fa he v ac = false ∧ chH on off mo ri fa he v ac = max 0 (he - fa) ∧ (on ≤ v → mo < he + ri)) := by
  have b := ch_ok h
  unfold chA chH
  rw [if_pos h, if_pos h]
  cases hw : chW on off v ac mo ri he with
  | true =>
    left
    refine ⟨rfl, by rw [if_pos rfl], ?_⟩
    unfold chW at hw
    simp at hw
    obtain ⟨h1, h2⟩ := hw
    refine ⟨h2, ?_, ?_⟩
    · rcases h1 with q | ⟨_, q⟩
      · omega
      · exact q
    · rcases h1 with q | ⟨q, _⟩
      · exact .inr q
      · exact .inl q
  | false =>
    right
    refine ⟨rfl, by rw [if_neg (by simp)], fun hv => ?_⟩
    unfold chW at hw
    simp [hv] at hw
    omega
theorem tick_bad {on off mo ri fa he v : Int} {ac : Bool} (h : chE on off mo ri fa he ≠ 0) : chA on off mo ri fa he v ac = false ∧ chH on off mo ri fa he v ac = 0 := by
  unfold chA chH
  rw [if_neg h, if_neg h]
  exact ⟨rfl, rfl⟩

set_option maxRecDepth 20000 in
set_option maxHeartbeats 20000000 in
theorem heats_any (on off mo ri fa he : Int) (ac : Bool) (A : Option Addr) (n cl bl ol : Nat) (f : Nat → Int) (w : World) (hL : IR w A n bl ol f) : Calls Try.prog 7 #[.agg #[.int .i64 on, .int .i64 off, .int .i64 mo, .int .i64 ri, .int .i64 fa], .agg #[.bool ac, .int .i64 he], .slice A n cl] w fun e w' => e = .returned (.bool true) ∧ Below w.heap.size w w' := by
  by_cases hk : 200 < n
  · have q1 : decide ((200 : Int) < (n : Int)) = true := decide_eq_true (by omega)
    have q2 : decide (200 < n) = true := decide_eq_true hk
    have K0 : Kp w ((w.alloc (.cells #[.int .i64 on, .int .i64 off, .int .i64 mo, .int .i64 ri, .int .i64 fa] 42)).alloc (.cells #[.bool ac, .int .i64 he] 44)) [(w.heap.size, 42, #[.int .i64 on, .int .i64 off, .int .i64 mo, .int .i64 ri, .int .i64 fa]), (w.heap.size + 1, 44, #[.bool ac, .int .i64 he])] := ⟨(Blk.new w 42 #[.int .i64 on, .int .i64 off, .int .i64 mo, .int .i64 ri, .int .i64 fa]).alloc _, by have := Blk.new (w.alloc (.cells #[.int .i64 on, .int .i64 off, .int .i64 mo, .int .i64 ri, .int .i64 fa] 42)) 44 #[.bool ac, .int .i64 he]; simpa using this, ((Kp.base w).alloc _).alloc _⟩
    go_enter Try.func7, Try.ntmps7
    go_wp2_with fail
    (with_reducible refine (awake_any _).mono ?_)
    rintro e w1 ⟨rfl, hb1⟩
    replace K0 := K0.call hb1
    go_wp2_with fail
    (with_reducible refine (awake_any _).mono ?_)
    rintro e w2 ⟨rfl, hb2⟩
    replace K0 := K0.call hb2
    go_wp2_with fail
    go_ret
    exact ⟨rfl, K0.2.2⟩
  · have q1 : decide ((200 : Int) < (n : Int)) = false := decide_eq_false (by omega)
    have q2 : decide (200 < n) = false := decide_eq_false hk
    have HL := Lib.hid hL
    clear hL
    have K0 : Kp w ((w.alloc (.cells #[.int .i64 on, .int .i64 off, .int .i64 mo, .int .i64 ri, .int .i64 fa] 42)).alloc (.cells #[.bool ac, .int .i64 he] 44)) [(w.heap.size, 42, #[.int .i64 on, .int .i64 off, .int .i64 mo, .int .i64 ri, .int .i64 fa]), (w.heap.size + 1, 44, #[.bool ac, .int .i64 he])] := ⟨(Blk.new w 42 #[.int .i64 on, .int .i64 off, .int .i64 mo, .int .i64 ri, .int .i64 fa]).alloc _, by have := Blk.new (w.alloc (.cells #[.int .i64 on, .int .i64 off, .int .i64 mo, .int .i64 ri, .int .i64 fa] 42)) 44 #[.bool ac, .int .i64 he]; simpa using this, ((Kp.base w).alloc _).alloc _⟩
    go_enter Try.func7, Try.ntmps7
    go_wp2_with fail
    (with_reducible refine (awake_any _).mono ?_)
    rintro e w1 ⟨rfl, hb1⟩
    replace K0 := K0.call hb1
    clear hb1
    go_wp2_with fail
    go_loopw [21] (fun i wr => ∃ (j : Nat) (ac : Bool) (he : Int), i = .int .i64 (j : Int) ∧ j ≤ n ∧ Kp w wr [(w.heap.size, 42, #[.int .i64 on, .int .i64 off, .int .i64 mo, .int .i64 ri, .int .i64 fa]), (w.heap.size + 1, 44, #[.bool ac, .int .i64 he])]) (fun i _ => n - (intOf i).toNat)
    case atStart => exact ⟨0, ac, he, rfl, Nat.zero_le _, K0⟩
    case round =>
      clear K0
      obtain ⟨j, ac, he, rfl, hle, KK⟩ := hrel
      by_cases hlt : j < n
      · have g1 : decide ((j : Int) < (n : Int)) = true := decide_eq_true (by omega)
        have g2 : decide (j < n) = true := decide_eq_true hlt
        obtain ⟨eA, _, cL⟩ := (HL.out.mono KK.below) (by omega)
        replace cL := cL j hlt
        subst eA
        obtain ⟨v, hv⟩ : ∃ v, f j = v := ⟨_, rfl⟩
        rw [hv] at cL
        clear hv
        obtain ⟨cC, fC, zC⟩ := And.intro KK.1.cell (And.intro KK.1.frozen KK.1.lt)
        obtain ⟨cS, fS, zS⟩ := And.intro KK.2.1.cell (And.intro KK.2.1.frozen KK.2.1.lt)
        clear fC zC
        have CA := Chop_any on off mo ri fa he v ac
        by_cases hE : chE on off mo ri fa he = 0
        · have b := ch_ok hE
          rw [hE, errV_zero] at CA
          have v1 : IntKind.i64.wrap (he + ri) = he + ri := IntWalk.i64_in _ (by omega)
          rcases @tick on off mo ri fa he v ac hE with ⟨e1, e2, e3, e4, e5⟩ | ⟨e1, e2, e3⟩
          · rw [e1, e2] at CA
            obtain ⟨h, hh⟩ : ∃ h, he + ri = h := ⟨_, rfl⟩
            rw [hh] at CA v1
            replace CA := Lib.hid CA
            have p1 : decide (h < 0) = false := decide_eq_false (by omega)
            have p2 : decide (mo < h) = false := decide_eq_false (by omega)
            have p3 : decide (v ≤ off) = false := decide_eq_false (by omega)
            have v2 : IntKind.i64.wrap (he + ri) = h := by rw [hh]; exact v1
            clear e1 e2 e3 e4 hE b v1 hh
            cases ac with
            | true =>
              clear e5
              go_wp2_with fail
              (with_reducible refine (CA.out _).mono ?_)
              rintro e w2 ⟨rfl, hb2⟩
              have K2 := (KK.call hb2).new #[.bool true, .int .i64 h] 44
              clear hb2 cC cS fS zS cL
              have cX := K2.1.cell
              have cC := K2.2.1.cell
              obtain ⟨cS, fS, zS⟩ := And.intro K2.2.2.1.cell (And.intro K2.2.2.1.frozen K2.2.2.1.lt)
              go_wp2_with fail
              exact ⟨⟨j + 1, true, h, by go_num, by omega, Kp.putState K2.2 (by omega) _ _⟩, by simp [intOf]; omega⟩
            | false =>
              have p5 : decide (v < on) = false := decide_eq_false (by rcases e5 with q | q; exact absurd q (by decide); omega)
              clear e5
              go_wp2_with fail
              (with_reducible refine (CA.out _).mono ?_)
              rintro e w2 ⟨rfl, hb2⟩
              have K2 := (KK.call hb2).new #[.bool true, .int .i64 h] 44
              clear hb2 cC cS fS zS cL
              have cX := K2.1.cell
              have cC := K2.2.1.cell
              obtain ⟨cS, fS, zS⟩ := And.intro K2.2.2.1.cell (And.intro K2.2.2.1.frozen K2.2.2.1.lt)
              go_wp2_with fail
              exact ⟨⟨j + 1, true, h, by go_num, by omega, Kp.putState K2.2 (by omega) _ _⟩, by simp [intOf]; omega⟩
          · rw [e1, e2] at CA
            obtain ⟨h, hh⟩ : ∃ h, max 0 (he - fa) = h := ⟨_, rfl⟩
            rw [hh] at CA
            replace CA := Lib.hid CA
            have p1 : decide (h < 0) = false := decide_eq_false (by omega)
            have p2 : decide (mo < h) = false := decide_eq_false (by omega)
            have p3 : decide (he < h) = false := decide_eq_false (by omega)
            clear hh e1 e2 hE b
            by_cases hv : on ≤ v
            · have p4 : decide (on ≤ v) = true := decide_eq_true hv
              have p5 : decide (he + ri ≤ mo) = false := decide_eq_false (by have := e3 hv; omega)
              clear e3 hv
              go_wp2_with fail
              (with_reducible refine (CA.out _).mono ?_)
              rintro e w2 ⟨rfl, hb2⟩
              have K2 := (KK.call hb2).new #[.bool false, .int .i64 h] 44
              clear hb2 cC cS fS zS cL
              have cX := K2.1.cell
              have cC := K2.2.1.cell
              obtain ⟨cS, fS, zS⟩ := And.intro K2.2.2.1.cell (And.intro K2.2.2.1.frozen K2.2.2.1.lt)
              go_upto_region 9 with fail
              apply wp_region_lit
              first | go_skip | go_guarded | go_step
              first | go_skip | go_guarded | go_step
              first | go_skip | go_guarded | go_step
              first | go_skip | go_guarded | go_step
              first | go_skip | go_guarded | go_step
              first | go_skip | go_guarded | go_step
              first | go_skip | go_guarded | go_step
              first | go_skip | go_guarded | go_step
              first | go_skip | go_guarded | go_step
              first | go_skip | go_guarded | go_step
              first | go_skip | go_guarded | go_step
              first | go_skip | go_guarded | go_step
              first | go_skip | go_guarded | go_step
              first | go_skip | go_guarded | go_step
              first | go_skip | go_guarded | go_step
              first | go_skip | go_guarded | go_step
              first | go_skip | go_guarded | go_step
              first | go_skip | go_guarded | go_step
              first | go_skip | go_guarded | go_step
              first | go_skip | go_guarded | go_step
              first | go_skip | go_guarded | go_step
              first | go_skip | go_guarded | go_step
              first | go_skip | go_guarded | go_step
              first | go_skip | go_guarded | go_step
              first | go_skip | go_guarded | go_step
              first | go_skip | go_guarded | go_step
              first | go_skip | go_guarded | go_step
              first | go_skip | go_guarded | go_step
              change wpList _ _ _ (_ :: _) _ _
              rw [skip_eq 13 50 true (.bool false)]; rotate_left; rfl; rfl; rfl; exact .inr rfl
              simp only [Act.put, List.setIfInBounds_toArray, List.set_cons_zero, List.set_cons_succ]
              change wpList _ _ _ (_ :: _) _ _
              rw [skip_eq 13 50 true (.bool false)]; rotate_left; rfl; rfl; rfl; exact .inr rfl
              simp only [Act.put, List.setIfInBounds_toArray, List.set_cons_zero, List.set_cons_succ]
              change wpList _ _ _ (_ :: _) _ _
              rw [skip_eq 13 50 true (.bool false)]; rotate_left; rfl; rfl; rfl; exact .inr rfl
              simp only [Act.put, List.setIfInBounds_toArray, List.set_cons_zero, List.set_cons_succ]
              change wpList _ _ _ (_ :: _) _ _
              rw [skip_eq 13 50 true (.bool false)]; rotate_left; rfl; rfl; rfl; exact .inr rfl
              simp only [Act.put, List.setIfInBounds_toArray, List.set_cons_zero, List.set_cons_succ]
              change wpList _ _ _ (_ :: _) _ _
              rw [skip_eq 13 50 true (.bool false)]; rotate_left; rfl; rfl; rfl; exact .inr rfl
              simp only [Act.put, List.setIfInBounds_toArray, List.set_cons_zero, List.set_cons_succ]
              change wpList _ _ _ (_ :: _) _ _
              rw [skip_eq 18 55 false undef]; rotate_left; rfl; rfl; rfl; exact .inl rfl
              simp only [Act.put, List.setIfInBounds_toArray, List.set_cons_zero, List.set_cons_succ]
              change wpList _ _ _ (_ :: _) _ _
              rw [skip_eq 18 55 false undef]; rotate_left; rfl; rfl; rfl; exact .inl rfl
              simp only [Act.put, List.setIfInBounds_toArray, List.set_cons_zero, List.set_cons_succ]
              change wpList _ _ _ (_ :: _) _ _
              rw [skip_eq 18 55 false undef]; rotate_left; rfl; rfl; rfl; exact .inl rfl
              simp only [Act.put, List.setIfInBounds_toArray, List.set_cons_zero, List.set_cons_succ]
              change wpList _ _ _ (_ :: _) _ _
              rw [skip_eq 18 55 false undef]; rotate_left; rfl; rfl; rfl; exact .inl rfl
              simp only [Act.put, List.setIfInBounds_toArray, List.set_cons_zero, List.set_cons_succ]
              change wpList _ _ _ (_ :: _) _ _
              rw [skip_eq 22 59 true undef]; rotate_left; rfl; rfl; rfl; exact .inl rfl
              simp only [Act.put, List.setIfInBounds_toArray, List.set_cons_zero, List.set_cons_succ]
              change wpList _ _ _ (_ :: _) _ _
              rw [skip_eq 22 59 true undef]; rotate_left; rfl; rfl; rfl; exact .inl rfl
              simp only [Act.put, List.setIfInBounds_toArray, List.set_cons_zero, List.set_cons_succ]
              change wpList _ _ _ (_ :: _) _ _
              rw [skip_eq 22 59 true undef]; rotate_left; rfl; rfl; rfl; exact .inl rfl
              simp only [Act.put, List.setIfInBounds_toArray, List.set_cons_zero, List.set_cons_succ]
              change wpList _ _ _ (_ :: _) _ _
              rw [skip_eq 22 59 true undef]; rotate_left; rfl; rfl; rfl; exact .inl rfl
              simp only [Act.put, List.setIfInBounds_toArray, List.set_cons_zero, List.set_cons_succ]
              change wpList _ _ _ (_ :: _) _ _
              rw [skip_eq 18 55 false undef]; rotate_left; rfl; rfl; rfl; exact .inl rfl
              simp only [Act.put, List.setIfInBounds_toArray, List.set_cons_zero, List.set_cons_succ]
              change wpList _ _ _ (_ :: _) _ _
              rw [skip_eq 13 50 true (.bool false)]; rotate_left; rfl; rfl; rfl; exact .inr rfl
              simp only [Act.put, List.setIfInBounds_toArray, List.set_cons_zero, List.set_cons_succ]
              change wpList _ _ _ (_ :: _) _ _
              rw [skip_eq 13 50 true (.bool false)]; rotate_left; rfl; rfl; rfl; exact .inr rfl
              simp only [Act.put, List.setIfInBounds_toArray, List.set_cons_zero, List.set_cons_succ]
              change wpList _ _ _ (_ :: _) _ _
              rw [skip_eq 29 66 false undef]; rotate_left; rfl; rfl; rfl; exact .inl rfl
              simp only [Act.put, List.setIfInBounds_toArray, List.set_cons_zero, List.set_cons_succ]
              change wpList _ _ _ (_ :: _) _ _
              rw [skip_eq 29 66 false undef]; rotate_left; rfl; rfl; rfl; exact .inl rfl
              simp only [Act.put, List.setIfInBounds_toArray, List.set_cons_zero, List.set_cons_succ]
              change wpList _ _ _ (_ :: _) _ _
              rw [skip_eq 29 66 false undef]; rotate_left; rfl; rfl; rfl; exact .inl rfl
              simp only [Act.put, List.setIfInBounds_toArray, List.set_cons_zero, List.set_cons_succ]
              change wpList _ _ _ (_ :: _) _ _
              rw [skip_eq 29 66 false undef]; rotate_left; rfl; rfl; rfl; exact .inl rfl
              simp only [Act.put, List.setIfInBounds_toArray, List.set_cons_zero, List.set_cons_succ]
              change wpList _ _ _ (_ :: _) _ _
              rw [skip_eq 29 66 false undef]; rotate_left; rfl; rfl; rfl; exact .inl rfl
              simp only [Act.put, List.setIfInBounds_toArray, List.set_cons_zero, List.set_cons_succ]
              change wpList _ _ _ (_ :: _) _ _
              rw [skip_eq 29 66 false undef]; rotate_left; rfl; rfl; rfl; exact .inl rfl
              simp only [Act.put, List.setIfInBounds_toArray, List.set_cons_zero, List.set_cons_succ]
              change wpList _ _ _ (_ :: _) _ _
              rw [skip_eq 29 66 false undef]; rotate_left; rfl; rfl; rfl; exact .inl rfl
              simp only [Act.put, List.setIfInBounds_toArray, List.set_cons_zero, List.set_cons_succ]
              change wpList _ _ _ (_ :: _) _ _
              rw [skip_eq 29 66 false undef]; rotate_left; rfl; rfl; rfl; exact .inl rfl
              simp only [Act.put, List.setIfInBounds_toArray, List.set_cons_zero, List.set_cons_succ]
              change wpList _ _ _ (_ :: _) _ _
              rw [skip_eq 13 50 true (.bool false)]; rotate_left; rfl; rfl; rfl; exact .inr rfl
              simp only [Act.put, List.setIfInBounds_toArray, List.set_cons_zero, List.set_cons_succ]
              first | go_skip | go_guarded | go_step
              first | go_skip | go_guarded | go_step
              first | go_skip | go_guarded | go_step
              first | go_skip | go_guarded | go_step
              first | go_skip | go_guarded | go_step
              first | go_skip | go_guarded | go_step
              first | go_skip | go_guarded | go_step
              first | go_skip | go_guarded | go_step
              first | go_skip | go_guarded | go_step
              first | go_skip | go_guarded | go_step
              first | go_skip | go_guarded | go_step
              first | go_skip | go_guarded | go_step
              first | go_skip | go_guarded | go_step
              first | go_skip | go_guarded | go_step
              first | go_skip | go_guarded | go_step
              first | go_skip | go_guarded | go_step
              first | go_skip | go_guarded | go_step
              first | go_skip | go_guarded | go_step
              first | go_skip | go_guarded | go_step
              first | go_skip | go_guarded | go_step
              first | go_skip | go_guarded | go_step
              first | go_skip | go_guarded | go_step
              first | go_skip | go_guarded | go_step
              first | go_skip | go_guarded | go_step
              first | go_skip | go_guarded | go_step
              first | go_skip | go_guarded | go_step
              first | go_skip | go_guarded | go_step
              first | go_skip | go_guarded | go_step
              first | go_skip | go_guarded | go_step
              first | go_skip | go_guarded | go_step
              first | go_skip | go_guarded | go_step
              first | go_skip | go_guarded | go_step
              first | go_skip | go_guarded | go_step
              first | go_skip | go_guarded | go_step
              first | go_skip | go_guarded | go_step
              first | go_skip | go_guarded | go_step
              first | go_skip | go_guarded | go_step
              first | go_skip | go_guarded | go_step
              first | go_skip | go_guarded | go_step
              first | go_skip | go_guarded | go_step
              first | go_skip | go_guarded | go_step
              first | go_skip | go_guarded | go_step
              first | go_skip | go_guarded | go_step
              first | go_skip | go_guarded | go_step
              first | go_skip | go_guarded | go_step
              first | go_skip | go_guarded | go_step
              first | go_skip | go_guarded | go_step
              first | go_skip | go_guarded | go_step
              first | go_skip | go_guarded | go_step
              first | go_skip | go_guarded | go_step
              first | go_skip | go_guarded | go_step
              first | go_skip | go_guarded | go_step
              first | go_skip | go_guarded | go_step
              first | go_skip | go_guarded | go_step
              first | go_skip | go_guarded | go_step
              first | go_skip | go_guarded | go_step
              first | go_skip | go_guarded | go_step
              first | go_skip | go_guarded | go_step
              first | go_skip | go_guarded | go_step
              first | go_skip | go_guarded | go_step
              first | go_skip | go_guarded | go_step
              first | go_skip | go_guarded | go_step
              first | go_skip | go_guarded | go_step
              first | go_skip | go_guarded | go_step
              first | go_skip | go_guarded | go_step
              first | go_skip | go_guarded | go_step
              first | go_skip | go_guarded | go_step
              first | go_skip | go_guarded | go_step
              first | go_skip | go_guarded | go_step
              first | go_skip | go_guarded | go_step
              go_wp2_with fail
              exact ⟨⟨j + 1, false, h, by go_num, by omega, Kp.putState K2.2 (by omega) _ _⟩, by simp [intOf]; omega⟩
            · have p4 : decide (on ≤ v) = false := decide_eq_false hv
              clear e3 hv
              go_wp2_with fail
              (with_reducible refine (CA.out _).mono ?_)
              rintro e w2 ⟨rfl, hb2⟩
              have K2 := (KK.call hb2).new #[.bool false, .int .i64 h] 44
              clear hb2 cC cS fS zS cL
              have cX := K2.1.cell
              have cC := K2.2.1.cell
              obtain ⟨cS, fS, zS⟩ := And.intro K2.2.2.1.cell (And.intro K2.2.2.1.frozen K2.2.2.1.lt)
              go_upto_region 9 with fail
              apply wp_region_lit
              first | go_skip | go_guarded | go_step
              first | go_skip | go_guarded | go_step
              first | go_skip | go_guarded | go_step
              first | go_skip | go_guarded | go_step
              first | go_skip | go_guarded | go_step
              first | go_skip | go_guarded | go_step
              first | go_skip | go_guarded | go_step
              first | go_skip | go_guarded | go_step
              first | go_skip | go_guarded | go_step
              first | go_skip | go_guarded | go_step
              first | go_skip | go_guarded | go_step
              first | go_skip | go_guarded | go_step
              first | go_skip | go_guarded | go_step
              first | go_skip | go_guarded | go_step
              first | go_skip | go_guarded | go_step
              first | go_skip | go_guarded | go_step
              first | go_skip | go_guarded | go_step
              first | go_skip | go_guarded | go_step
              first | go_skip | go_guarded | go_step
              first | go_skip | go_guarded | go_step
              first | go_skip | go_guarded | go_step
              first | go_skip | go_guarded | go_step
              first | go_skip | go_guarded | go_step
              first | go_skip | go_guarded | go_step
              first | go_skip | go_guarded | go_step
              first | go_skip | go_guarded | go_step
              first | go_skip | go_guarded | go_step
              first | go_skip | go_guarded | go_step
              change wpList _ _ _ (_ :: _) _ _
              rw [skip_eq 13 50 true (.bool false)]; rotate_left; rfl; rfl; rfl; exact .inr rfl
              simp only [Act.put, List.setIfInBounds_toArray, List.set_cons_zero, List.set_cons_succ]
              change wpList _ _ _ (_ :: _) _ _
              rw [skip_eq 13 50 true (.bool false)]; rotate_left; rfl; rfl; rfl; exact .inr rfl
              simp only [Act.put, List.setIfInBounds_toArray, List.set_cons_zero, List.set_cons_succ]
              change wpList _ _ _ (_ :: _) _ _
              rw [skip_eq 13 50 true (.bool false)]; rotate_left; rfl; rfl; rfl; exact .inr rfl
              simp only [Act.put, List.setIfInBounds_toArray, List.set_cons_zero, List.set_cons_succ]
              change wpList _ _ _ (_ :: _) _ _
              rw [skip_eq 13 50 true (.bool false)]; rotate_left; rfl; rfl; rfl; exact .inr rfl
              simp only [Act.put, List.setIfInBounds_toArray, List.set_cons_zero, List.set_cons_succ]
              change wpList _ _ _ (_ :: _) _ _
              rw [skip_eq 13 50 true (.bool false)]; rotate_left; rfl; rfl; rfl; exact .inr rfl
              simp only [Act.put, List.setIfInBounds_toArray, List.set_cons_zero, List.set_cons_succ]
              change wpList _ _ _ (_ :: _) _ _
              rw [skip_eq 18 55 false undef]; rotate_left; rfl; rfl; rfl; exact .inl rfl
              simp only [Act.put, List.setIfInBounds_toArray, List.set_cons_zero, List.set_cons_succ]
              change wpList _ _ _ (_ :: _) _ _
              rw [skip_eq 18 55 false undef]; rotate_left; rfl; rfl; rfl; exact .inl rfl
              simp only [Act.put, List.setIfInBounds_toArray, List.set_cons_zero, List.set_cons_succ]
              change wpList _ _ _ (_ :: _) _ _
              rw [skip_eq 18 55 false undef]; rotate_left; rfl; rfl; rfl; exact .inl rfl
              simp only [Act.put, List.setIfInBounds_toArray, List.set_cons_zero, List.set_cons_succ]
              change wpList _ _ _ (_ :: _) _ _
              rw [skip_eq 18 55 false undef]; rotate_left; rfl; rfl; rfl; exact .inl rfl
              simp only [Act.put, List.setIfInBounds_toArray, List.set_cons_zero, List.set_cons_succ]
              change wpList _ _ _ (_ :: _) _ _
              rw [skip_eq 22 59 true undef]; rotate_left; rfl; rfl; rfl; exact .inl rfl
              simp only [Act.put, List.setIfInBounds_toArray, List.set_cons_zero, List.set_cons_succ]
              change wpList _ _ _ (_ :: _) _ _
              rw [skip_eq 22 59 true undef]; rotate_left; rfl; rfl; rfl; exact .inl rfl
              simp only [Act.put, List.setIfInBounds_toArray, List.set_cons_zero, List.set_cons_succ]
              change wpList _ _ _ (_ :: _) _ _
              rw [skip_eq 22 59 true undef]; rotate_left; rfl; rfl; rfl; exact .inl rfl
              simp only [Act.put, List.setIfInBounds_toArray, List.set_cons_zero, List.set_cons_succ]
              change wpList _ _ _ (_ :: _) _ _
              rw [skip_eq 22 59 true undef]; rotate_left; rfl; rfl; rfl; exact .inl rfl
              simp only [Act.put, List.setIfInBounds_toArray, List.set_cons_zero, List.set_cons_succ]
              change wpList _ _ _ (_ :: _) _ _
              rw [skip_eq 18 55 false undef]; rotate_left; rfl; rfl; rfl; exact .inl rfl
              simp only [Act.put, List.setIfInBounds_toArray, List.set_cons_zero, List.set_cons_succ]
              change wpList _ _ _ (_ :: _) _ _
              rw [skip_eq 13 50 true (.bool false)]; rotate_left; rfl; rfl; rfl; exact .inr rfl
              simp only [Act.put, List.setIfInBounds_toArray, List.set_cons_zero, List.set_cons_succ]
              change wpList _ _ _ (_ :: _) _ _
              rw [skip_eq 13 50 true (.bool false)]; rotate_left; rfl; rfl; rfl; exact .inr rfl
              simp only [Act.put, List.setIfInBounds_toArray, List.set_cons_zero, List.set_cons_succ]
              change wpList _ _ _ (_ :: _) _ _
              rw [skip_eq 29 66 false undef]; rotate_left; rfl; rfl; rfl; exact .inl rfl
              simp only [Act.put, List.setIfInBounds_toArray, List.set_cons_zero, List.set_cons_succ]
              change wpList _ _ _ (_ :: _) _ _
              rw [skip_eq 29 66 false undef]; rotate_left; rfl; rfl; rfl; exact .inl rfl
              simp only [Act.put, List.setIfInBounds_toArray, List.set_cons_zero, List.set_cons_succ]
              change wpList _ _ _ (_ :: _) _ _
              rw [skip_eq 29 66 false undef]; rotate_left; rfl; rfl; rfl; exact .inl rfl
              simp only [Act.put, List.setIfInBounds_toArray, List.set_cons_zero, List.set_cons_succ]
              change wpList _ _ _ (_ :: _) _ _
              rw [skip_eq 29 66 false undef]; rotate_left; rfl; rfl; rfl; exact .inl rfl
              simp only [Act.put, List.setIfInBounds_toArray, List.set_cons_zero, List.set_cons_succ]
              change wpList _ _ _ (_ :: _) _ _
              rw [skip_eq 29 66 false undef]; rotate_left; rfl; rfl; rfl; exact .inl rfl
              simp only [Act.put, List.setIfInBounds_toArray, List.set_cons_zero, List.set_cons_succ]
              change wpList _ _ _ (_ :: _) _ _
              rw [skip_eq 29 66 false undef]; rotate_left; rfl; rfl; rfl; exact .inl rfl
              simp only [Act.put, List.setIfInBounds_toArray, List.set_cons_zero, List.set_cons_succ]
              change wpList _ _ _ (_ :: _) _ _
              rw [skip_eq 29 66 false undef]; rotate_left; rfl; rfl; rfl; exact .inl rfl
              simp only [Act.put, List.setIfInBounds_toArray, List.set_cons_zero, List.set_cons_succ]
              change wpList _ _ _ (_ :: _) _ _
              rw [skip_eq 29 66 false undef]; rotate_left; rfl; rfl; rfl; exact .inl rfl
              simp only [Act.put, List.setIfInBounds_toArray, List.set_cons_zero, List.set_cons_succ]
              change wpList _ _ _ (_ :: _) _ _
              rw [skip_eq 13 50 true (.bool false)]; rotate_left; rfl; rfl; rfl; exact .inr rfl
              simp only [Act.put, List.setIfInBounds_toArray, List.set_cons_zero, List.set_cons_succ]
              first | go_skip | go_guarded | go_step
              first | go_skip | go_guarded | go_step
              first | go_skip | go_guarded | go_step
              first | go_skip | go_guarded | go_step
              first | go_skip | go_guarded | go_step
              first | go_skip | go_guarded | go_step
              first | go_skip | go_guarded | go_step
              first | go_skip | go_guarded | go_step
              first | go_skip | go_guarded | go_step
              first | go_skip | go_guarded | go_step
              first | go_skip | go_guarded | go_step
              first | go_skip | go_guarded | go_step
              first | go_skip | go_guarded | go_step
              first | go_skip | go_guarded | go_step
              first | go_skip | go_guarded | go_step
              first | go_skip | go_guarded | go_step
              first | go_skip | go_guarded | go_step
              first | go_skip | go_guarded | go_step
              first | go_skip | go_guarded | go_step
              first | go_skip | go_guarded | go_step
              first | go_skip | go_guarded | go_step
              first | go_skip | go_guarded | go_step
              first | go_skip | go_guarded | go_step
              first | go_skip | go_guarded | go_step
              first | go_skip | go_guarded | go_step
              first | go_skip | go_guarded | go_step
              first | go_skip | go_guarded | go_step
              first | go_skip | go_guarded | go_step
              change wpList _ _ _ (_ :: _) _ _
              rw [skip_eq 51 88 true (.bool false)]; rotate_left; rfl; rfl; rfl; exact .inr rfl
              simp only [Act.put, List.setIfInBounds_toArray, List.set_cons_zero, List.set_cons_succ]
              change wpList _ _ _ (_ :: _) _ _
              rw [skip_eq 51 88 true (.bool false)]; rotate_left; rfl; rfl; rfl; exact .inr rfl
              simp only [Act.put, List.setIfInBounds_toArray, List.set_cons_zero, List.set_cons_succ]
              change wpList _ _ _ (_ :: _) _ _
              rw [skip_eq 51 88 true (.bool false)]; rotate_left; rfl; rfl; rfl; exact .inr rfl
              simp only [Act.put, List.setIfInBounds_toArray, List.set_cons_zero, List.set_cons_succ]
              change wpList _ _ _ (_ :: _) _ _
              rw [skip_eq 51 88 true (.bool false)]; rotate_left; rfl; rfl; rfl; exact .inr rfl
              simp only [Act.put, List.setIfInBounds_toArray, List.set_cons_zero, List.set_cons_succ]
              change wpList _ _ _ (_ :: _) _ _
              rw [skip_eq 51 88 true (.bool false)]; rotate_left; rfl; rfl; rfl; exact .inr rfl
              simp only [Act.put, List.setIfInBounds_toArray, List.set_cons_zero, List.set_cons_succ]
              change wpList _ _ _ (_ :: _) _ _
              rw [skip_eq 51 88 true (.bool false)]; rotate_left; rfl; rfl; rfl; exact .inr rfl
              simp only [Act.put, List.setIfInBounds_toArray, List.set_cons_zero, List.set_cons_succ]
              change wpList _ _ _ (_ :: _) _ _
              rw [skip_eq 51 88 true (.bool false)]; rotate_left; rfl; rfl; rfl; exact .inr rfl
              simp only [Act.put, List.setIfInBounds_toArray, List.set_cons_zero, List.set_cons_succ]
              change wpList _ _ _ (_ :: _) _ _
              rw [skip_eq 51 88 true (.bool false)]; rotate_left; rfl; rfl; rfl; exact .inr rfl
              simp only [Act.put, List.setIfInBounds_toArray, List.set_cons_zero, List.set_cons_succ]
              first | go_skip | go_guarded | go_step
              first | go_skip | go_guarded | go_step
              first | go_skip | go_guarded | go_step
              first | go_skip | go_guarded | go_step
              first | go_skip | go_guarded | go_step
              first | go_skip | go_guarded | go_step
              first | go_skip | go_guarded | go_step
              first | go_skip | go_guarded | go_step
              first | go_skip | go_guarded | go_step
              first | go_skip | go_guarded | go_step
              first | go_skip | go_guarded | go_step
              first | go_skip | go_guarded | go_step
              first | go_skip | go_guarded | go_step
              first | go_skip | go_guarded | go_step
              first | go_skip | go_guarded | go_step
              first | go_skip | go_guarded | go_step
              first | go_skip | go_guarded | go_step
              first | go_skip | go_guarded | go_step
              first | go_skip | go_guarded | go_step
              first | go_skip | go_guarded | go_step
              first | go_skip | go_guarded | go_step
              first | go_skip | go_guarded | go_step
              first | go_skip | go_guarded | go_step
              first | go_skip | go_guarded | go_step
              first | go_skip | go_guarded | go_step
              first | go_skip | go_guarded | go_step
              first | go_skip | go_guarded | go_step
              first | go_skip | go_guarded | go_step
              go_wp2_with fail
              exact ⟨⟨j + 1, false, h, by go_num, by omega, Kp.putState K2.2 (by omega) _ _⟩, by simp [intOf]; omega⟩
        · rw [(tick_bad hE).1, (tick_bad hE).2, errV_pos hE] at CA
          generalize chE on off mo ri fa he = cd at CA
          replace CA := Lib.hid CA
          clear hE
          go_wp2_with fail
          (with_reducible refine (CA.out _).mono ?_)
          rintro e w2 ⟨rfl, hb2⟩
          have K2 := (KK.call hb2).new #[.bool false, .int .i64 0] 44
          clear hb2 cC cS fS zS cL
          have cX := K2.1.cell
          have cC := K2.2.1.cell
          obtain ⟨cS, fS, zS⟩ := And.intro K2.2.2.1.cell (And.intro K2.2.2.1.frozen K2.2.2.1.lt)
          go_wp2_with fail
          go_ret
          exact ⟨ret_bool (by simp), K2.2.2.2⟩
      · have g1 : decide ((j : Int) < (n : Int)) = false := decide_eq_false (by omega)
        have g2 : decide (j < n) = false := decide_eq_false hlt
        go_wp2_with fail
        go_ret
        exact ⟨rfl, KK.2.2⟩

end Go.Proofs.Ytfopcmiphklcdaa
