/- Allow, the program's and the reference's. -/
import Derived.Test.YtfopcmiphklcdaaRDivide
import Derived.Test.YtfopcmiphklcdaaAwake
namespace Go.Proofs.Ytfopcmiphklcdaa
open Go.RowKit

def alw (v so ha : Int) (x : Dr) : Int := x.b * (ha - max so (min v ha)) / (ha - so)
open Classical in
noncomputable def alE (so ha : Int) (k : Nat) (L : Nat → Dr) : Int := if chk k L ≠ 0 then chk k L else if so < 0 ∨ ha ≤ so ∨ 1048576 < ha then 26 else 0
theorem alE_zero {so ha : Int} {k : Nat} {L : Nat → Dr} (h : alE so ha k L = 0) : (k ≤ 8 ∧ okL k L) ∧ 0 ≤ so ∧ so < ha ∧ ha ≤ 1048576 := by
  unfold alE at h
  split at h
  · rename_i h1; exact absurd h h1
  · rename_i h1
    have h1 : chk k L = 0 := by
      by_cases e : chk k L = 0
      · exact e
      · exact absurd e h1
    split at h
    · omega
    · exact ⟨chk_zero.1 h1, by omega, by omega, by omega⟩
theorem mul_bd2 {b u : Int} (hb : 0 ≤ b ∧ b ≤ 1073741824) (hu : 0 ≤ u ∧ u ≤ 1048576) : 0 ≤ b * u ∧ b * u ≤ 1125899906842624 := by
  have := Int.mul_le_mul hb.2 hu.2 hu.1 (by omega)
  exact ⟨Int.mul_nonneg hb.1 hu.1, by omega⟩
theorem alw_bd {v so ha : Int} {x : Dr} (hx : okD x) (h1 : so < ha) : 0 ≤ alw v so ha x ∧ alw v so ha x ≤ x.b := by
  have hb : 0 ≤ x.b := by have := hx.1; omega
  have hu : 0 ≤ ha - max so (min v ha) := by omega
  have hu2 : ha - max so (min v ha) ≤ ha - so := by omega
  unfold alw
  refine ⟨Int.ediv_nonneg (Int.mul_nonneg hb hu) (by omega), ?_⟩
  have := Int.mul_le_mul_of_nonneg_left hu2 hb
  exact Int.ediv_le_of_le_mul (by omega) this
theorem alw_mono {v v' so ha : Int} {x : Dr} (hx : okD x) (h1 : so < ha) (hv : v ≤ v') : alw v' so ha x ≤ alw v so ha x := by
  have hb : 0 ≤ x.b := by have := hx.1; omega
  unfold alw
  exact Int.ediv_le_ediv (by omega) (Int.mul_le_mul_of_nonneg_left (by omega) hb)
theorem alw_low {v so ha : Int} {x : Dr} (h1 : so < ha) (hv : v ≤ so) : alw v so ha x = x.b := by
  unfold alw
  rw [show max so (min v ha) = so by omega]
  exact Int.mul_ediv_cancel _ (by omega)
theorem alw_high {v so ha : Int} {x : Dr} (h1 : so < ha) (hv : ha ≤ v) : alw v so ha x = 0 := by
  unfold alw
  rw [show max so (min v ha) = ha by omega, Int.sub_self, Int.mul_zero, Int.zero_ediv]
theorem alw_mid {v so ha : Int} {x : Dr} (h1 : so < v) (hv : v < ha) : alw v so ha x = x.b * (ha - v) / (ha - so) := by
  unfold alw
  rw [show max so (min v ha) = v by omega]

set_option maxRecDepth 20000 in
set_option maxHeartbeats 4000000 in
theorem Allow_bad (v so ha : Int) (A : Option Addr) (k cl bl ol : Nat) (L : Nat → Dr) (h : alE so ha k L ≠ 0) (w : World) (hR : Row w A k bl ol L) : Calls Try.prog 22 #[.int .i64 v, .int .i64 so, .int .i64 ha, .slice A k cl] w fun e w' => e = .returned (.tuple #[.slice none 0 0, errV (alE so ha k L)]) ∧ Below w.heap.size w w' := by
  have CK := Check_any A k cl bl ol L w hR
  by_cases h1 : chk k L = 0
  · have h2 : so < 0 ∨ ha ≤ so ∨ 1048576 < ha := by
      unfold alE at h
      rw [if_neg (by omega)] at h
      by_cases h2 : so < 0 ∨ ha ≤ so ∨ 1048576 < ha
      · exact h2
      · rw [if_neg h2] at h; exact absurd rfl h
    have he : alE so ha k L = 26 := by
      unfold alE
      rw [if_neg (by omega), if_pos h2]
    rw [he, errV_pos (by decide)]
    rw [h1, errV_zero] at CK
    replace CK := Lib.hid CK
    clear h he h1 hR
    by_cases a1 : so < 0
    · have q1 : decide (so < 0) = true := decide_eq_true a1
      go_enter Try.func22, Try.ntmps22
      go_wp2_with fail
      (with_reducible refine CK.out.mono ?_)
      rintro e w1 ⟨rfl, hb1⟩
      go_wp2_with fail
      refine bodyPost_ret (v := .tuple #[.slice none 0 0, .iface 66 (.int .i64 26)]) ?_ rfl ⟨rfl, hb1⟩
      simp [results, Try.results22, go_sem]
    · have q1 : decide (so < 0) = false := decide_eq_false a1
      by_cases a2 : ha ≤ so
      · have q2 : decide (ha ≤ so) = true := decide_eq_true a2
        go_enter Try.func22, Try.ntmps22
        go_wp2_with fail
        (with_reducible refine CK.out.mono ?_)
        rintro e w1 ⟨rfl, hb1⟩
        go_wp2_with fail
        refine bodyPost_ret (v := .tuple #[.slice none 0 0, .iface 66 (.int .i64 26)]) ?_ rfl ⟨rfl, hb1⟩
        simp [results, Try.results22, go_sem]
      · have q2 : decide (ha ≤ so) = false := decide_eq_false a2
        have q3 : decide (1048576 < ha) = true := decide_eq_true (by omega)
        go_enter Try.func22, Try.ntmps22
        go_wp2_with fail
        (with_reducible refine CK.out.mono ?_)
        rintro e w1 ⟨rfl, hb1⟩
        go_wp2_with fail
        refine bodyPost_ret (v := .tuple #[.slice none 0 0, .iface 66 (.int .i64 26)]) ?_ rfl ⟨rfl, hb1⟩
        simp [results, Try.results22, go_sem]
  · have he : alE so ha k L = chk k L := by
      unfold alE
      rw [if_pos h1]
    rw [he]
    obtain ⟨cd, hcd⟩ : ∃ cd, chk k L = cd := ⟨_, rfl⟩
    rw [hcd] at CK h1 ⊢
    rw [errV_pos h1] at CK ⊢
    replace CK := Lib.hid CK
    clear h he h1 hR hcd
    go_enter Try.func22, Try.ntmps22
    go_wp2_with fail
    (with_reducible refine CK.out.mono ?_)
    rintro e w1 ⟨rfl, hb1⟩
    go_wp2_with fail
    refine bodyPost_ret (v := .tuple #[.slice none 0 0, .iface 66 (.int .i64 cd)]) ?_ rfl ⟨rfl, hb1⟩
    simp [results, Try.results22, go_sem]

set_option maxRecDepth 20000 in
set_option maxHeartbeats 4000000 in
theorem rAllow_bad (v so ha : Int) (A : Option Addr) (k cl bl ol : Nat) (L : Nat → Dr) (h : alE so ha k L ≠ 0) (w : World) (hR : Row w A k bl ol L) : Calls Try.prog 23 #[.int .i64 v, .int .i64 so, .int .i64 ha, .slice A k cl] w fun e w' => e = .returned (.tuple #[.slice none 0 0, .int .i64 (alE so ha k L)]) ∧ Below w.heap.size w w' := by
  have CK := rCheck_any A k cl bl ol L w hR
  by_cases h1 : chk k L = 0
  · have h2 : so < 0 ∨ ha ≤ so ∨ 1048576 < ha := by
      unfold alE at h
      rw [if_neg (by omega)] at h
      by_cases h2 : so < 0 ∨ ha ≤ so ∨ 1048576 < ha
      · exact h2
      · rw [if_neg h2] at h; exact absurd rfl h
    have he : alE so ha k L = 26 := by
      unfold alE
      rw [if_neg (by omega), if_pos h2]
    rw [he]
    rw [h1] at CK
    replace CK := Lib.hid CK
    clear h he h1 hR
    by_cases a1 : so < 0
    · have q1 : decide (so < 0) = true := decide_eq_true a1
      go_enter Try.func23, Try.ntmps23
      go_wp2_with fail
      (with_reducible refine CK.out.mono ?_)
      rintro e w1 ⟨rfl, hb1⟩
      go_wp2_with fail
      refine bodyPost_ret (v := .tuple #[.slice none 0 0, .int .i64 26]) ?_ rfl ⟨rfl, hb1⟩
      simp [results, Try.results23, go_sem]
    · have q1 : decide (so < 0) = false := decide_eq_false a1
      by_cases a2 : ha ≤ so
      · have q2 : decide (ha ≤ so) = true := decide_eq_true a2
        go_enter Try.func23, Try.ntmps23
        go_wp2_with fail
        (with_reducible refine CK.out.mono ?_)
        rintro e w1 ⟨rfl, hb1⟩
        go_wp2_with fail
        refine bodyPost_ret (v := .tuple #[.slice none 0 0, .int .i64 26]) ?_ rfl ⟨rfl, hb1⟩
        simp [results, Try.results23, go_sem]
      · have q2 : decide (ha ≤ so) = false := decide_eq_false a2
        have q3 : decide (1048576 < ha) = true := decide_eq_true (by omega)
        go_enter Try.func23, Try.ntmps23
        go_wp2_with fail
        (with_reducible refine CK.out.mono ?_)
        rintro e w1 ⟨rfl, hb1⟩
        go_wp2_with fail
        refine bodyPost_ret (v := .tuple #[.slice none 0 0, .int .i64 26]) ?_ rfl ⟨rfl, hb1⟩
        simp [results, Try.results23, go_sem]
  · have he : alE so ha k L = chk k L := by
      unfold alE
      rw [if_pos h1]
    rw [he]
    obtain ⟨cd, hcd⟩ : ∃ cd, chk k L = cd := ⟨_, rfl⟩
    rw [hcd] at CK h1 ⊢
    have q1 : (cd != 0) = true := by simpa using h1
    have q2 : decide (cd = 0) = false := decide_eq_false h1
    replace CK := Lib.hid CK
    clear h he h1 hR hcd
    go_enter Try.func23, Try.ntmps23
    go_wp2_with fail
    (with_reducible refine CK.out.mono ?_)
    rintro e w1 ⟨rfl, hb1⟩
    go_wp2_with fail
    refine bodyPost_ret (v := .tuple #[.slice none 0 0, .int .i64 cd]) ?_ rfl ⟨rfl, hb1⟩
    simp [results, Try.results23, go_sem]

set_option maxRecDepth 20000 in
set_option maxHeartbeats 4000000 in
theorem Allow_yes (v so ha : Int) (A : Option Addr) (k cl bl ol : Nat) (L : Nat → Dr) (h : alE so ha k L = 0) (w : World) (hR : Row w A k bl ol L) : Calls Try.prog 22 #[.int .i64 v, .int .i64 so, .int .i64 ha, .slice A k cl] w fun e w' => (∃ O g c, e = .returned (.tuple #[.slice O k c, .nilIface]) ∧ ORow w' w.heap.size O g k (fun i => alw v so ha (L i))) ∧ Below w.heap.size w w' := by
  obtain ⟨i0, hi, hz0, hz1, hz2⟩ := info_parts Try.info3
  obtain ⟨⟨hk, hok⟩, h0, h1, h2⟩ := alE_zero h
  have CK := Check_any A k cl bl ol L w hR
  rw [chk_ok hk hok, errV_zero] at CK
  replace CK := Lib.hid CK
  have HR := Lib.hid hR
  have BB := Lib.hid (fun i (hi : i < k) => show 0 ≤ (L i).b ∧ (L i).b ≤ 1073741824 by have := (hok i hi).1; omega)
  have q1 : decide (so < 0) = false := decide_eq_false (by omega)
  have q2 : decide (ha ≤ so) = false := decide_eq_false (by omega)
  have q3 : decide (1048576 < ha) = false := decide_eq_false (by omega)
  have AV : Hid (∀ j, alw v so ha (L j) = (L j).b * (ha - max so (min v ha)) / (ha - so)) := Lib.hid (fun j => rfl)
  obtain ⟨cv, hcv⟩ : ∃ cv, max so (min v ha) = cv := ⟨_, rfl⟩
  have hcb : so ≤ cv ∧ cv ≤ ha := by omega
  rw [hcv] at AV
  obtain ⟨u, hu⟩ : ∃ u, ha - cv = u := ⟨_, rfl⟩
  obtain ⟨d, hd⟩ : ∃ d, ha - so = d := ⟨_, rfl⟩
  rw [hu, hd] at AV
  have ub : 0 ≤ u ∧ u ≤ 1048576 := by omega
  have db : 0 < d ∧ d ≤ 1048576 := by omega
  have v1 : IntKind.i64.wrap (ha - cv) = u := by rw [hu]; exact IntWalk.i64_in _ (by omega)
  have v2 : IntKind.i64.wrap (ha - so) = d := by rw [hd]; exact IntWalk.i64_in _ (by omega)
  have d1 : (d == 0) = false := by simp; omega
  have d2 : decide (d = 0) = false := decide_eq_false (by omega)
  have d3 : d ≠ 0 := by omega
  clear hu hd
  clear h hok hR
  go_enter Try.func22, Try.ntmps22
  go_wp2_with fail
  (with_reducible refine CK.out.mono ?_)
  rintro e w1 ⟨rfl, hb1⟩
  have KK : Kp w w1 [] := hb1
  go_wp2_with fail
  clear CK hb1
  go_loopw [11, 38] (fun v' i wr => ∃ j : Nat, i = .int .i64 (j : Int) ∧ j ≤ k ∧ wr.ownsRow w.heap.size 3 1 v' j ((List.range j).map fun i => .int .i64 (alw v so ha (L i))) ∧ Kp w wr []) (fun _ i _ => k - (intOf i).toNat)
  case atStart => exact ⟨0, rfl, Nat.zero_le _, World.ownsRow_nil _ _ _ _, KK⟩
  case round =>
    clear KK
    obtain ⟨j, rfl, hle, hown, KK⟩ := hrel
    by_cases hjk : j < k
    · have g2 : decide ((j : Int) < (k : Int)) = true := decide_eq_true (by omega)
      have g3 : decide (j < k) = true := decide_eq_true hjk
      obtain ⟨eA, c0, c1, c2, c3⟩ := HR.out.at KK.below hjk
      subst eA
      have KA := KK.alloc (.cells #[.int .i64 (L j).a, .int .i64 (L j).b, .int .i64 (L j).c, .int .i64 (L j).d] 40)
      have hA := hown.alloc (.cells #[.int .i64 (L j).a, .int .i64 (L j).b, .int .i64 (L j).c, .int .i64 (L j).d] 40)
      have hrow := range_row (fun i => alw v so ha (L i)) j
      have szA := KA.size
      clear hown
      have mb := mul_bd2 (BB.out j hjk) ub
      have av := AV.out j
      obtain ⟨q, hq⟩ : ∃ q, (L j).b * u / d = q := ⟨_, rfl⟩
      have qb := Int.ediv_nonneg mb.1 (Int.le_of_lt db.1)
      have qb2 := Int.ediv_le_self d mb.1
      rw [hq] at av qb qb2
      have v3 : IntKind.i64.wrap ((L j).b * u) = (L j).b * u := IntWalk.i64_in _ (by omega)
      have v4 : ((L j).b * u).tdiv d = q := by rw [Int.tdiv_eq_ediv_of_nonneg mb.1]; exact hq
      have v5 : IntKind.i64.wrap q = q := IntWalk.i64_in _ (by omega)
      clear mb hq qb qb2
      rw [av] at hrow
      replace hrow := Lib.hid hrow
      clear av
      go_wp2_with (at_builtin; refine wpList_append_own _ rfl _ _ 24 rfl w.heap.size 3 i0 (.int .i64 0) 1 8 Try.underlying24 hi hz0 hz1 hz2 rfl (by decide) _ _ _ rfl (hA.alloc _) ⟨_, 0, none⟩ 1 1 [.int .i64 q] rfl rfl (news_one ((cell_new0 _ _ (by simp) _ _).trans rfl)) (one_int _) (by unfold maxLen; omega) (by omega) (by simp at szA ⊢; omega) ?_; intro v4 w4 hown4 hgrow4 _)
      have K4 := Kp.grown hgrow4 (Nat.le_refl _) (by simp at szA ⊢; omega) (fun q hq => (hA.lt q hq).1) (by simp) (KA.alloc _)
      exact ⟨⟨j + 1, by go_num, by omega, by rw [hrow.out]; exact hown4, K4⟩, by simp [intOf]; omega⟩
    · have g2 : decide ((j : Int) < (k : Int)) = false := decide_eq_false (by omega)
      have g3 : decide (j < k) = false := decide_eq_false hjk
      have e0 : j = k := by omega
      subst e0
      obtain ⟨O, g, c, rfl, OR⟩ := own_out hown
      clear hown
      go_wp2_with fail
      refine bodyPost_ret (v := .tuple #[.slice O j c, .nilIface]) ?_ rfl ⟨⟨O, g, c, rfl, OR⟩, KK⟩
      simp [results, Try.results22, go_sem]

set_option maxRecDepth 20000 in
set_option maxHeartbeats 4000000 in
theorem rAllow_low (v so ha : Int) (A : Option Addr) (k cl bl ol : Nat) (L : Nat → Dr) (h : alE so ha k L = 0) (hv : v ≤ so) (w : World) (hR : Row w A k bl ol L) : Calls Try.prog 23 #[.int .i64 v, .int .i64 so, .int .i64 ha, .slice A k cl] w fun e w' => (∃ O g c, e = .returned (.tuple #[.slice O k c, .int .i64 0]) ∧ ORow w' w.heap.size O g k (fun i => alw v so ha (L i))) ∧ Below w.heap.size w w' := by
  obtain ⟨i0, hi, hz0, hz1, hz2⟩ := info_parts Try.info3
  obtain ⟨⟨hk, hok⟩, h0, h1, h2⟩ := alE_zero h
  have CK := rCheck_any A k cl bl ol L w hR
  rw [chk_ok hk hok] at CK
  replace CK := Lib.hid CK
  have HR := Lib.hid hR
  have BB := Lib.hid (fun i (hi : i < k) => show 0 ≤ (L i).b ∧ (L i).b ≤ 1073741824 by have := (hok i hi).1; omega)
  have q1 : decide (so < 0) = false := decide_eq_false (by omega)
  have q2 : decide (ha ≤ so) = false := decide_eq_false (by omega)
  have q3 : decide (1048576 < ha) = false := decide_eq_false (by omega)
  have AV := Lib.hid (fun j => @alw_low v so ha (L j) h1 hv)
  have q4 : decide (v ≤ so) = true := decide_eq_true hv
  clear h hok hR
  go_enter Try.func23, Try.ntmps23
  go_wp2_with fail
  (with_reducible refine CK.out.mono ?_)
  rintro e w1 ⟨rfl, hb1⟩
  have KK : Kp w w1 [] := hb1
  go_wp2_with fail
  clear CK hb1
  go_loopw [11, 32] (fun v' i wr => ∃ j : Nat, i = .int .i64 (j : Int) ∧ j ≤ k ∧ wr.ownsRow w.heap.size 3 1 v' j ((List.range j).map fun i => .int .i64 (alw v so ha (L i))) ∧ Kp w wr []) (fun _ i _ => k - (intOf i).toNat)
  case atStart => exact ⟨0, rfl, Nat.zero_le _, World.ownsRow_nil _ _ _ _, KK⟩
  case round =>
    clear KK
    obtain ⟨j, rfl, hle, hown, KK⟩ := hrel
    by_cases hjk : j < k
    · have g2 : decide ((j : Int) < (k : Int)) = true := decide_eq_true (by omega)
      have g3 : decide (j < k) = true := decide_eq_true hjk
      obtain ⟨eA, c0, c1, c2, c3⟩ := HR.out.at KK.below hjk
      subst eA
      have KA := KK.alloc (.cells #[.int .i64 (L j).a, .int .i64 (L j).b, .int .i64 (L j).c, .int .i64 (L j).d] 40)
      have hA := hown.alloc (.cells #[.int .i64 (L j).a, .int .i64 (L j).b, .int .i64 (L j).c, .int .i64 (L j).d] 40)
      have hrow := range_row (fun i => alw v so ha (L i)) j
      have szA := KA.size
      clear hown
      have av := AV.out j
      rw [av] at hrow
      replace hrow := Lib.hid hrow
      clear av
      go_wp2_with (at_builtin; refine wpList_append_own _ rfl _ _ 24 rfl w.heap.size 3 i0 (.int .i64 0) 1 8 Try.underlying24 hi hz0 hz1 hz2 rfl (by decide) _ _ _ rfl (hA.alloc _) ⟨_, 0, none⟩ 1 1 [.int .i64 (L j).b] rfl rfl (news_one ((cell_new0 _ _ (by simp) _ _).trans rfl)) (one_int _) (by unfold maxLen; omega) (by omega) (by simp at szA ⊢; omega) ?_; intro v4 w4 hown4 hgrow4 _)
      have K4 := Kp.grown hgrow4 (Nat.le_refl _) (by simp at szA ⊢; omega) (fun q hq => (hA.lt q hq).1) (by simp) (KA.alloc _)
      exact ⟨⟨j + 1, by go_num, by omega, by rw [hrow.out]; exact hown4, K4⟩, by simp [intOf]; omega⟩
    · have g2 : decide ((j : Int) < (k : Int)) = false := decide_eq_false (by omega)
      have g3 : decide (j < k) = false := decide_eq_false hjk
      have e0 : j = k := by omega
      subst e0
      obtain ⟨O, g, c, rfl, OR⟩ := own_out hown
      clear hown
      go_wp2_with fail
      refine bodyPost_ret (v := .tuple #[.slice O j c, .int .i64 0]) ?_ rfl ⟨⟨O, g, c, rfl, OR⟩, KK⟩
      simp [results, Try.results23, go_sem]

set_option maxRecDepth 20000 in
set_option maxHeartbeats 4000000 in
theorem rAllow_high (v so ha : Int) (A : Option Addr) (k cl bl ol : Nat) (L : Nat → Dr) (h : alE so ha k L = 0) (hv : ha ≤ v) (w : World) (hR : Row w A k bl ol L) : Calls Try.prog 23 #[.int .i64 v, .int .i64 so, .int .i64 ha, .slice A k cl] w fun e w' => (∃ O g c, e = .returned (.tuple #[.slice O k c, .int .i64 0]) ∧ ORow w' w.heap.size O g k (fun i => alw v so ha (L i))) ∧ Below w.heap.size w w' := by
  obtain ⟨i0, hi, hz0, hz1, hz2⟩ := info_parts Try.info3
  obtain ⟨⟨hk, hok⟩, h0, h1, h2⟩ := alE_zero h
  have CK := rCheck_any A k cl bl ol L w hR
  rw [chk_ok hk hok] at CK
  replace CK := Lib.hid CK
  have HR := Lib.hid hR
  have BB := Lib.hid (fun i (hi : i < k) => show 0 ≤ (L i).b ∧ (L i).b ≤ 1073741824 by have := (hok i hi).1; omega)
  have q1 : decide (so < 0) = false := decide_eq_false (by omega)
  have q2 : decide (ha ≤ so) = false := decide_eq_false (by omega)
  have q3 : decide (1048576 < ha) = false := decide_eq_false (by omega)
  have AV := Lib.hid (fun j => @alw_high v so ha (L j) h1 hv)
  have q4 : decide (v ≤ so) = false := decide_eq_false (by omega)
  have q5 : decide (ha ≤ v) = true := decide_eq_true hv
  clear h hok hR
  go_enter Try.func23, Try.ntmps23
  go_wp2_with fail
  (with_reducible refine CK.out.mono ?_)
  rintro e w1 ⟨rfl, hb1⟩
  have KK : Kp w w1 [] := hb1
  go_wp2_with fail
  clear CK hb1
  go_loopw [11, 32] (fun v' i wr => ∃ j : Nat, i = .int .i64 (j : Int) ∧ j ≤ k ∧ wr.ownsRow w.heap.size 3 1 v' j ((List.range j).map fun i => .int .i64 (alw v so ha (L i))) ∧ Kp w wr []) (fun _ i _ => k - (intOf i).toNat)
  case atStart => exact ⟨0, rfl, Nat.zero_le _, World.ownsRow_nil _ _ _ _, KK⟩
  case round =>
    clear KK
    obtain ⟨j, rfl, hle, hown, KK⟩ := hrel
    by_cases hjk : j < k
    · have g2 : decide ((j : Int) < (k : Int)) = true := decide_eq_true (by omega)
      have g3 : decide (j < k) = true := decide_eq_true hjk
      obtain ⟨eA, c0, c1, c2, c3⟩ := HR.out.at KK.below hjk
      subst eA
      have KA := KK.alloc (.cells #[.int .i64 (L j).a, .int .i64 (L j).b, .int .i64 (L j).c, .int .i64 (L j).d] 40)
      have hA := hown.alloc (.cells #[.int .i64 (L j).a, .int .i64 (L j).b, .int .i64 (L j).c, .int .i64 (L j).d] 40)
      have hrow := range_row (fun i => alw v so ha (L i)) j
      have szA := KA.size
      clear hown
      have av := AV.out j
      rw [av] at hrow
      replace hrow := Lib.hid hrow
      clear av
      go_wp2_with (at_builtin; refine wpList_append_own _ rfl _ _ 24 rfl w.heap.size 3 i0 (.int .i64 0) 1 8 Try.underlying24 hi hz0 hz1 hz2 rfl (by decide) _ _ _ rfl (hA.alloc _) ⟨_, 0, none⟩ 1 1 [.int .i64 0] rfl rfl (news_one ((cell_new0 _ _ (by simp) _ _).trans rfl)) (one_int _) (by unfold maxLen; omega) (by omega) (by simp at szA ⊢; omega) ?_; intro v4 w4 hown4 hgrow4 _)
      have K4 := Kp.grown hgrow4 (Nat.le_refl _) (by simp at szA ⊢; omega) (fun q hq => (hA.lt q hq).1) (by simp) (KA.alloc _)
      exact ⟨⟨j + 1, by go_num, by omega, by rw [hrow.out]; exact hown4, K4⟩, by simp [intOf]; omega⟩
    · have g2 : decide ((j : Int) < (k : Int)) = false := decide_eq_false (by omega)
      have g3 : decide (j < k) = false := decide_eq_false hjk
      have e0 : j = k := by omega
      subst e0
      obtain ⟨O, g, c, rfl, OR⟩ := own_out hown
      clear hown
      go_wp2_with fail
      refine bodyPost_ret (v := .tuple #[.slice O j c, .int .i64 0]) ?_ rfl ⟨⟨O, g, c, rfl, OR⟩, KK⟩
      simp [results, Try.results23, go_sem]

set_option maxRecDepth 20000 in
set_option maxHeartbeats 4000000 in
theorem rAllow_mid (v so ha : Int) (A : Option Addr) (k cl bl ol : Nat) (L : Nat → Dr) (h : alE so ha k L = 0) (hv : so < v) (hv2 : v < ha) (w : World) (hR : Row w A k bl ol L) : Calls Try.prog 23 #[.int .i64 v, .int .i64 so, .int .i64 ha, .slice A k cl] w fun e w' => (∃ O g c, e = .returned (.tuple #[.slice O k c, .int .i64 0]) ∧ ORow w' w.heap.size O g k (fun i => alw v so ha (L i))) ∧ Below w.heap.size w w' := by
  obtain ⟨i0, hi, hz0, hz1, hz2⟩ := info_parts Try.info3
  obtain ⟨⟨hk, hok⟩, h0, h1, h2⟩ := alE_zero h
  have CK := rCheck_any A k cl bl ol L w hR
  rw [chk_ok hk hok] at CK
  replace CK := Lib.hid CK
  have HR := Lib.hid hR
  have BB := Lib.hid (fun i (hi : i < k) => show 0 ≤ (L i).b ∧ (L i).b ≤ 1073741824 by have := (hok i hi).1; omega)
  have q1 : decide (so < 0) = false := decide_eq_false (by omega)
  have q2 : decide (ha ≤ so) = false := decide_eq_false (by omega)
  have q3 : decide (1048576 < ha) = false := decide_eq_false (by omega)
  have AV := Lib.hid (fun j => @alw_mid v so ha (L j) hv hv2)
  have q4 : decide (v ≤ so) = false := decide_eq_false (by omega)
  have q5 : decide (ha ≤ v) = false := decide_eq_false (by omega)
  obtain ⟨u, hu⟩ : ∃ u, ha - v = u := ⟨_, rfl⟩
  obtain ⟨d, hd⟩ : ∃ d, ha - so = d := ⟨_, rfl⟩
  rw [hu, hd] at AV
  have ub : 0 ≤ u ∧ u ≤ 1048576 := by omega
  have db : 0 < d ∧ d ≤ 1048576 := by omega
  have v1 : IntKind.i64.wrap (ha - v) = u := by rw [hu]; exact IntWalk.i64_in _ (by omega)
  have v2 : IntKind.i64.wrap (ha - so) = d := by rw [hd]; exact IntWalk.i64_in _ (by omega)
  have d1 : (d == 0) = false := by simp; omega
  have d2 : decide (d = 0) = false := decide_eq_false (by omega)
  have d3 : d ≠ 0 := by omega
  clear hu hd
  clear h hok hR
  go_enter Try.func23, Try.ntmps23
  go_wp2_with fail
  (with_reducible refine CK.out.mono ?_)
  rintro e w1 ⟨rfl, hb1⟩
  have KK : Kp w w1 [] := hb1
  go_wp2_with fail
  clear CK hb1
  go_loopw [11, 32] (fun v' i wr => ∃ j : Nat, i = .int .i64 (j : Int) ∧ j ≤ k ∧ wr.ownsRow w.heap.size 3 1 v' j ((List.range j).map fun i => .int .i64 (alw v so ha (L i))) ∧ Kp w wr []) (fun _ i _ => k - (intOf i).toNat)
  case atStart => exact ⟨0, rfl, Nat.zero_le _, World.ownsRow_nil _ _ _ _, KK⟩
  case round =>
    clear KK
    obtain ⟨j, rfl, hle, hown, KK⟩ := hrel
    by_cases hjk : j < k
    · have g2 : decide ((j : Int) < (k : Int)) = true := decide_eq_true (by omega)
      have g3 : decide (j < k) = true := decide_eq_true hjk
      obtain ⟨eA, c0, c1, c2, c3⟩ := HR.out.at KK.below hjk
      subst eA
      have KA := KK.alloc (.cells #[.int .i64 (L j).a, .int .i64 (L j).b, .int .i64 (L j).c, .int .i64 (L j).d] 40)
      have hA := hown.alloc (.cells #[.int .i64 (L j).a, .int .i64 (L j).b, .int .i64 (L j).c, .int .i64 (L j).d] 40)
      have hrow := range_row (fun i => alw v so ha (L i)) j
      have szA := KA.size
      clear hown
      have mb := mul_bd2 (BB.out j hjk) ub
      have av := AV.out j
      obtain ⟨q, hq⟩ : ∃ q, (L j).b * u / d = q := ⟨_, rfl⟩
      have qb := Int.ediv_nonneg mb.1 (Int.le_of_lt db.1)
      have qb2 := Int.ediv_le_self d mb.1
      rw [hq] at av qb qb2
      have v3 : IntKind.i64.wrap ((L j).b * u) = (L j).b * u := IntWalk.i64_in _ (by omega)
      have v4 : ((L j).b * u).tdiv d = q := by rw [Int.tdiv_eq_ediv_of_nonneg mb.1]; exact hq
      have v5 : IntKind.i64.wrap q = q := IntWalk.i64_in _ (by omega)
      clear mb hq qb qb2
      rw [av] at hrow
      replace hrow := Lib.hid hrow
      clear av
      go_wp2_with (at_builtin; refine wpList_append_own _ rfl _ _ 24 rfl w.heap.size 3 i0 (.int .i64 0) 1 8 Try.underlying24 hi hz0 hz1 hz2 rfl (by decide) _ _ _ rfl (hA.alloc _) ⟨_, 0, none⟩ 1 1 [.int .i64 q] rfl rfl (news_one ((cell_new0 _ _ (by simp) _ _).trans rfl)) (one_int _) (by unfold maxLen; omega) (by omega) (by simp at szA ⊢; omega) ?_; intro v4 w4 hown4 hgrow4 _)
      have K4 := Kp.grown hgrow4 (Nat.le_refl _) (by simp at szA ⊢; omega) (fun q hq => (hA.lt q hq).1) (by simp) (KA.alloc _)
      exact ⟨⟨j + 1, by go_num, by omega, by rw [hrow.out]; exact hown4, K4⟩, by simp [intOf]; omega⟩
    · have g2 : decide ((j : Int) < (k : Int)) = false := decide_eq_false (by omega)
      have g3 : decide (j < k) = false := decide_eq_false hjk
      have e0 : j = k := by omega
      subst e0
      obtain ⟨O, g, c, rfl, OR⟩ := own_out hown
      clear hown
      go_wp2_with fail
      refine bodyPost_ret (v := .tuple #[.slice O j c, .int .i64 0]) ?_ rfl ⟨⟨O, g, c, rfl, OR⟩, KK⟩
      simp [results, Try.results23, go_sem]

theorem rAllow_yes (v so ha : Int) (A : Option Addr) (k cl bl ol : Nat) (L : Nat → Dr) (h : alE so ha k L = 0) (w : World) (hR : Row w A k bl ol L) : Calls Try.prog 23 #[.int .i64 v, .int .i64 so, .int .i64 ha, .slice A k cl] w fun e w' => (∃ O g c, e = .returned (.tuple #[.slice O k c, .int .i64 0]) ∧ ORow w' w.heap.size O g k (fun i => alw v so ha (L i))) ∧ Below w.heap.size w w' := by
  by_cases h1 : v ≤ so
  · exact rAllow_low v so ha A k cl bl ol L h h1 w hR
  · by_cases h2 : ha ≤ v
    · exact rAllow_high v so ha A k cl bl ol L h h2 w hR
    · exact rAllow_mid v so ha A k cl bl ol L h (by omega) (by omega) w hR

end Go.Proofs.Ytfopcmiphklcdaa
